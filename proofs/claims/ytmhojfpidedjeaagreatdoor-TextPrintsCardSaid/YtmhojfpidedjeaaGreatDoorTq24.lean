/- The program's line: the walk. -/
import Derived.Test.YtmhojfpidedjeaaGreatDoorTq18
namespace Go.Proofs.YtmhojfpidedjeaaGreatDoor
open Go.RowKit
set_option linter.unusedVariables false
attribute [local simp] freshS_nil freshS_cons
def LnTQ (w0:World) (pb:Nat) (tv:Value) (params pl:Int) (bv:Value) (bl:List FBlk) (l:List ByteArray) (w:World) (x:Ending) (w':World):Prop:=
 x=.returned (.tuple #[])∧∃ params' pl' e' bv' bl',TPa w0 pb tv params' pl' e' bv' bl' w'∧Turn (PaOwn pb bv bl) w w'∧StAns (stepSt ⟨params,bl.map FBlk.d,pl⟩ l) e' params' pl' bl'
def NewBox (base:Nat) (cs:Array Value) (T:TypeId) (v:Value) (w:World):Prop:=∃ q,v=.pointer (some ⟨q,0,none⟩)∧HeapIs w q cs T∧base≤q
theorem NewBox.stable (base:Nat) (cs:Array Value) (T:TypeId):Stable (NewBox base cs T):=fun v w w' ⟨q,h1,h2,h3⟩ s=>⟨q,h1,h2.keep s,h3⟩
def NumRow (base:Nat) (x:Int) (v:Value) (w:World):Prop:=∃ g cap,v=.slice (some ⟨g,0,none⟩) 1 cap∧base≤g∧g<w.heap.size∧w.cell? ⟨g,0,none⟩=some (.int .i64 x)
theorem NumRow.stable (base:Nat) (x:Int):Stable (NumRow base x):=fun v w w' ⟨g,cap,h1,h2,h3,h4⟩ s=>⟨g,cap,h1,h2,Nat.lt_of_lt_of_le h3 s.size,(s.cell (p:=⟨g,0,none⟩) h3).trans h4⟩
def NumPtr (base:Nat) (x:Int) (v:Value) (w:World):Prop:=∃ g,v=.pointer (some ⟨g,0,none⟩)∧base≤g∧g<w.heap.size∧w.cell? ⟨g,0,none⟩=some (.int .i64 x)
theorem NumPtr.stable (base:Nat) (x:Int):Stable (NumPtr base x):=fun v w w' ⟨g,h1,h2,h3,h4⟩ s=>⟨g,h1,h2,Nat.lt_of_lt_of_le h3 s.size,(s.cell (p:=⟨g,0,none⟩) h3).trans h4⟩
theorem NumPtr.stableT {S : Nat→Prop} {base:Nat} (x:Int) (hS:∀ q,S q→q<base):StableT S (NumPtr base x):=fun v w w' ⟨g,h1,h2,h3,h4⟩ t=>⟨g,h1,h2,Nat.lt_of_lt_of_le h3 t.size,(t.cell (p:=⟨g,0,none⟩) h3 (fun hs=>by have:=hS g hs;omega)).trans h4⟩
def standsOf (qb rb:Nat):List MapEntry:=[{ key:=.string ⟨#[102,117,110,99]⟩,val:=.func (.func 71) #[] #[.pointer (some ⟨qb,0,none⟩),.pointer (some ⟨rb,0,none⟩)],born:=0 },{ key:=.string ⟨#[98,108,111,99,107]⟩,val:=.func (.func 72) #[] #[.pointer (some ⟨qb,0,none⟩),.pointer (some ⟨rb,0,none⟩)],born:=1 },{ key:=.string ⟨#[112,104,105]⟩,val:=.func (.func 73) #[] #[.pointer (some ⟨qb,0,none⟩)],born:=2 }]
theorem stands_look (f:ByteArray) (qb rb:Nat):∃ (fv:Value) (kn:Bool),(lookS f (standsOf qb rb)).getD .nilFunc=fv∧(lookS f (standsOf qb rb)).isSome=kn∧(f=wFunc∧kn=true∧fv=.func (.func 71) #[] #[.pointer (some ⟨qb,0,none⟩),.pointer (some ⟨rb,0,none⟩)]∨¬ f=wFunc∧f=wBlock∧kn=true∧fv=.func (.func 72) #[] #[.pointer (some ⟨qb,0,none⟩),.pointer (some ⟨rb,0,none⟩)]∨¬ f=wFunc∧¬ f=wBlock∧f=wPhi∧kn=true∧fv=.func (.func 73) #[] #[.pointer (some ⟨qb,0,none⟩)]∨¬ f=wFunc∧¬ f=wBlock∧¬ f=wPhi∧kn=false):=by
 unfold standsOf
 simp only[lookS_cons,lookS_nil]
 by_cases h1:f=wFunc
 ·have e1:(f==(⟨#[102,117,110,99]⟩:ByteArray))=true:=(MapKept.bytes_beq _ _).2 h1
  rw[e1]
  exact⟨_,_,rfl,rfl,.inl ⟨h1,rfl,rfl⟩⟩
 ·have e1:(f==(⟨#[102,117,110,99]⟩:ByteArray))=false:=by cases hb:f==(⟨#[102,117,110,99]⟩:ByteArray) with | false=>rfl | true=>exact absurd ((MapKept.bytes_beq _ _).1 hb) h1
  by_cases h2:f=wBlock
  ·have e2:(f==(⟨#[98,108,111,99,107]⟩:ByteArray))=true:=(MapKept.bytes_beq _ _).2 h2
   rw[e1,e2]
   exact⟨_,_,rfl,rfl,.inr (.inl ⟨h1,h2,rfl,rfl⟩)⟩
  ·have e2:(f==(⟨#[98,108,111,99,107]⟩:ByteArray))=false:=by cases hb:f==(⟨#[98,108,111,99,107]⟩:ByteArray) with | false=>rfl | true=>exact absurd ((MapKept.bytes_beq _ _).1 hb) h2
   by_cases h3:f=wPhi
   ·have e3:(f==(⟨#[112,104,105]⟩:ByteArray))=true:=(MapKept.bytes_beq _ _).2 h3
    rw[e1,e2,e3]
    exact⟨_,_,rfl,rfl,.inr (.inr (.inl ⟨h1,h2,h3,rfl,rfl⟩))⟩
   ·have e3:(f==(⟨#[112,104,105]⟩:ByteArray))=false:=by cases hb:f==(⟨#[112,104,105]⟩:ByteArray) with | false=>rfl | true=>exact absurd ((MapKept.bytes_beq _ _).1 hb) h3
    rw[e1,e2,e3]
    exact⟨_,_,rfl,rfl,.inr (.inr (.inr ⟨h1,h2,h3,rfl⟩))⟩
set_option maxHeartbeats 400000 in
set_option maxRecDepth 100000 in
theorem ok1_any (w:World) {qb rb pb:Nat} {ra:Option Addr} {n rc:Nat} {pl:Int} (hq:w.cell? ⟨qb,0,none⟩=some (.pointer (some ⟨pb,0,none⟩))) (hr:w.cell? ⟨rb,0,none⟩=some (.slice ra n rc)) (hp:w.cell? ⟨pb,2,none⟩=some (.int .i64 pl)) (hql:qb<w.heap.size) (hrl:rb<w.heap.size) (hpl:pb<w.heap.size):Calls Tryz.prog 71 #[.pointer (some ⟨qb,0,none⟩),.pointer (some ⟨rb,0,none⟩)] w fun e w'=>e=.returned (.bool (pl==0&&(n:Int)==1))∧w'=w:=by
 cases h1:pl==0
 ·go_enter Tryz.func71,Tryz.ntmps71
  go_wp2
  go_ret
  exact⟨rfl,rfl⟩
 ·obtain⟨o,ho⟩:∃ o,((n:Int)==1)=o:=⟨_,rfl⟩
  rw[ho]
  go_enter Tryz.func71,Tryz.ntmps71
  go_wp2
  go_ret
  exact⟨rfl,rfl⟩
set_option maxHeartbeats 400000 in
set_option maxRecDepth 100000 in
theorem ok2_any (w:World) {qb rb pb:Nat} {ra:Option Addr} {n rc:Nat} {pl:Int} (hq:w.cell? ⟨qb,0,none⟩=some (.pointer (some ⟨pb,0,none⟩))) (hr:w.cell? ⟨rb,0,none⟩=some (.slice ra n rc)) (hp:w.cell? ⟨pb,2,none⟩=some (.int .i64 pl)) (hql:qb<w.heap.size) (hrl:rb<w.heap.size) (hpl:pb<w.heap.size):Calls Tryz.prog 72 #[.pointer (some ⟨qb,0,none⟩),.pointer (some ⟨rb,0,none⟩)] w fun e w'=>e=.returned (.bool (pl==1&&(n:Int)==1))∧w'=w:=by
 cases h1:pl==1
 ·go_enter Tryz.func72,Tryz.ntmps72
  go_wp2
  go_ret
  exact⟨rfl,rfl⟩
 ·obtain⟨o,ho⟩:∃ o,((n:Int)==1)=o:=⟨_,rfl⟩
  rw[ho]
  go_enter Tryz.func72,Tryz.ntmps72
  go_wp2
  go_ret
  exact⟨rfl,rfl⟩
set_option maxHeartbeats 400000 in
set_option maxRecDepth 100000 in
theorem ok3_any (w:World) {qb pb:Nat} {pl:Int} (hq:w.cell? ⟨qb,0,none⟩=some (.pointer (some ⟨pb,0,none⟩))) (hp:w.cell? ⟨pb,2,none⟩=some (.int .i64 pl)) (hql:qb<w.heap.size) (hpl:pb<w.heap.size):Calls Tryz.prog 73 #[.pointer (some ⟨qb,0,none⟩)] w fun e w'=>e=.returned (.bool (pl==2))∧w'=w:=by
 go_enter Tryz.func73,Tryz.ntmps73
 go_wp2
 go_ret
 exact⟨rfl,rfl⟩
section
variable {w0:World} {pb:Nat} {tv:Value} {params pl:Int} {bv:Value} {bl:List FBlk}
theorem phi_any (w:World) (h:TPa w0 pb tv params pl 0 bv bl w) (hL:LaidT w0) (v:Value) (r:List ByteArray) (hl:StrsIn w v r) (hst:Stays (PaOwn pb bv bl) w v) (hn:r.length≤400000) (b:FBlk) (hb:bl[bl.length-1]? = some b) (hb1:bl.length≤1000000) (hb2:b.phis.length≤1000000):Calls Tryz.prog 78 #[.pointer (some ⟨pb,0,none⟩),v] w (PhiTQ w0 pb tv params pl bv bl r w):=by
 cases r with
 | nil =>
  obtain⟨a,c,e1,_⟩:=RowIn.shape hl
  obtain rfl:v=.slice a 0 c:=e1
  exact phi_nil w h a c
 | cons d r=>exact phi_cons w h hL v d r hl hst (by rw[List.length_cons]at hn;omega) b hb hb1 hb2
set_option maxHeartbeats 8000000 in
set_option maxRecDepth 100000 in
theorem pline_any (w:World) (h:TPa w0 pb tv params pl 0 bv bl w) (hL:LaidT w0) (hpl:0≤pl∧pl≤3∧(2≤pl→bl≠[])) (v:Value) (f:ByteArray) (r:List ByteArray) (hl:StrsIn w v (f::r)) (hst:Stays (PaOwn pb bv bl) w v) (hn:r.length≤400000) (hb1:bl.length≤900000) (hbs:∀ b,bl[bl.length-1]? = some b→b.phis.length≤1000000∧b.ins.length≤1000000):Calls Tryz.prog 39 #[.pointer (some ⟨pb,0,none⟩),v] w (LnTQ w0 pb tv params pl bv bl (f::r) w):=by
 obtain⟨a,c,e1,_⟩:=RowIn.shape hl
 obtain⟨n,hnn⟩:∃ n,r.length=n:=⟨_,rfl⟩
 rw[List.length_cons,hnn]at e1
 subst e1
 obtain⟨vb,vo,x,ha,hvb,hx,hc0,hxs⟩:=StrsIn.at hl (k:=0) (by simp)
 obtain rfl:f=x:=by simpa using hx
 subst ha
 rw[Nat.add_zero]at hc0
 have hcap:n+1≤c:=by
  rcases hl with ⟨_,_,h2⟩|⟨_,_,_,h1,h2,_⟩
  ·cases h2
  ·cases h1;rw[List.length_cons,hnn]at h2;exact h2
 obtain⟨ra,hra⟩:∃ ra,(if c=1 then some (⟨vb,vo,none⟩:Addr) else some ⟨vb,vo+1,none⟩)=ra:=⟨_,rfl⟩
 have hrb:∀ q,(Value.slice ra n (c-1)).ownBlock=some q→q=vb:=fun q hq=>by
  rw[←hra]at hq
  by_cases h1:c=1
  ·rw[if_pos h1]at hq;cases hq;rfl
  ·rw[if_neg h1]at hq;cases hq;rfl
 have hrow:StrsIn w (.slice ra n (c-1)) r:=by
  rw[←hra]
  by_cases h1:c=1
  ·rw[if_pos h1]
   have:n=0:=by omega
   subst this
   subst h1
   exact .inl ⟨_,rfl,List.length_eq_zero_iff.1 hnn⟩
  ·rw[if_neg h1]
   exact RowIn.rest hl
 have hrst:Stays (PaOwn pb bv bl) w (.slice ra n (c-1)):=fun q hq=>by have:=hrb q hq;subst this;exact hst _ rfl
 have H:=Lib.hid h
 have HLT0:=Lib.hid hL
 have HPL:=Lib.hid hpl
 have HBS:=Lib.hid hbs
 have HNN:=Lib.hid hnn
 rw[hnn]at hn
 have HR:=Lib.hid hrow
 have HRS:=Lib.hid hrst
 obtain⟨op,hop⟩:∃ op,numberF f=op:=⟨_,rfl⟩
 obtain⟨kd,hkd⟩:∃ kd,kindF f=kd:=⟨_,rfl⟩
 have hop1:=number_le f
 have hkd1:=kind_le f
 rw[hop]at hop1
 rw[hkd]at hkd1
 have HOP:=Lib.hid hop
 have HKD:=Lib.hid hkd
 obtain⟨id,hidq⟩:∃ id,Lib.idxOfS termNames f=id:=⟨_,rfl⟩
 have hid2:1+id=kd:=by rw[←hidq,←hkd];rfl
 subst hid2
 have HID:=Lib.hid hidq
 have hmm:=@run_makeMap Tryz.prog
 have hup:=@run_mapUpdate_newS Tryz.prog _ _ _ Tryz.underlying142 Tryz.underlying9
 have hn1:((⟨#[98,108,111,99,107]⟩:ByteArray)==⟨#[102,117,110,99]⟩)=false:=by kernel_rfl
 have hn2:((⟨#[112,104,105]⟩:ByteArray)==⟨#[102,117,110,99]⟩)=false:=by kernel_rfl
 have hn3:((⟨#[112,104,105]⟩:ByteArray)==⟨#[98,108,111,99,107]⟩)=false:=by kernel_rfl
 clear h hl hst hnn hpl hbs hop hkd hx hxs hrb hrow hrst hL hidq
 go_enter Tryz.func39,Tryz.ntmps39
 go_wp2_with fail
 obtain⟨qb,hqb⟩:∃ q,w.heap.size=q:=⟨_,rfl⟩
 obtain⟨w1,hw1⟩:∃ w1,w.alloc (.cells #[.pointer (some ⟨pb,0,none⟩)] 91)=w1:=⟨_,rfl⟩
 have hs1:Since w w1:=by rw[←hw1];exact (Since.refl w).alloc _
 have hq1:HeapIs w1 qb #[.pointer (some ⟨pb,0,none⟩)] 91:=by rw[←hw1,←hqb];exact HeapIs.new _ _ _
 have hz1:qb+1≤w1.heap.size:=hq1.lt
 rw[hw1,hqb]
 have hc1:w1.cell? ⟨vb,vo,none⟩=some (.string f):=(hs1.cell (p:=⟨vb,vo,none⟩) hvb).trans hc0
 have hvb1:vb<w1.heap.size:=Nat.lt_of_lt_of_le hvb hs1.size
 have HS1:=Lib.hid hs1
 have HQ1:=Lib.hid hq1
 have HQB:=Lib.hid hqb
 clear hw1 hs1 hq1 hqb hc0 hvb
 refine wp_region_since_tail 7 rfl (by decide +kernel) (by decide +kernel) (by decide +kernel) (by decide)
  [Is (.slice (some ⟨vb,vo,none⟩) (n+1) c),Is (.pointer (some ⟨vb,vo,none⟩)),Is (.string f),Is (.slice (some ⟨vb,vo,none⟩) (n+1) c),Is (.slice ra n (c-1)),NewBox (qb+1) #[.slice none 0 0] 89,Is (.string f)]
  (by repeat (first | exact trivial | refine⟨Is.stable _,?_⟩ | refine⟨NewBox.stable _ _ _,?_⟩)) ⟨?_,?_,?_,?_,?_,?_,?_,trivial⟩ ?_
 rotate_right
 ·intro vs w8 hs hk
  simp only[List.take,List.drop,putAll,Act.put,KnowsAll,nthF,Is,List.setIfInBounds_toArray,List.set_cons_zero,List.set_cons_succ,Nat.reduceAdd]at hk ⊢
  try simp only[hk]
  obtain⟨rb,hrb,hbx,hrl⟩:NewBox (qb+1) #[.slice none 0 0] 89 (vs 5) w8:=by exact hk.2.2.2.2.2.1
  simp only[hrb]
  have HBX:=Lib.hid hbx
  have HS8:=Lib.hid hs
  have HRL:=Lib.hid hrl
  have hbl8:=hbx.lt
  have hbf8:=hbx.frozen
  have hbc8:=hbx.cell 0
  clear hk hs hbx hrl hrb
  go_upto_region 2 with (fail)
  obtain⟨w9,hw9⟩:∃ w9,w8.setCell ⟨rb,0,none⟩ (.slice ra n (c-1))=w9:=⟨_,rfl⟩
  have ht9:Turn (fun q=>q=rb) w8 w9:=by rw[←hw9];exact (Turn.refl (fun q=>q=rb) w8).setCell (p:=⟨rb,0,none⟩) rfl _
  have hr9:HeapIs w9 rb #[.slice ra n (c-1)] 89:=by rw[←hw9];exact HBX.out.set 0 _
  have hq9:HeapIs w9 qb #[.pointer (some ⟨pb,0,none⟩)] 91:=(HQ1.out.keep HS8.out).turn ht9 (by have:=HRL.out;omega)
  have hs9:Since w w9:=ht9.toSince (HS1.out.trans HS8.out) fun q hq e=>by have:=HRL.out;have:=HQB.out;omega
  rw[hw9]
  have HR9:=Lib.hid hr9
  have HQ9:=Lib.hid hq9
  have HS9:=Lib.hid hs9
  clear hw9 ht9 hr9 hq9 hs9 hbl8 hbf8 hbc8 hc1 hvb1 hz1
  obtain⟨mb,hmb⟩:∃ q,w9.heap.size=q:=⟨_,rfl⟩
  have HM9:=Lib.hid (show (w9.alloc (.map (standsOf qb rb).toArray 3)).heap[mb]? = some (.map (standsOf qb rb).toArray 3) from by rw[←hmb];exact (MapKept.heap_alloc w9 _).1)
  have hs10:Since w9 (w9.alloc (.map (standsOf qb rb).toArray 3)):=(Since.refl w9).alloc _
  have HS10:=Lib.hid hs10
  clear hs10
  go_wp2_with fail
  obtain⟨w10,hw10⟩:∃ w10,w9.alloc (.map (standsOf qb rb).toArray 3)=w10:=⟨_,rfl⟩
  have hw10b:w9.alloc (.map #[{ key:=.string ⟨#[102,117,110,99]⟩,val:=.func (.func 71) #[] #[.pointer (some ⟨qb,0,none⟩),.pointer (some ⟨rb,0,none⟩)],born:=0 },{ key:=.string ⟨#[98,108,111,99,107]⟩,val:=.func (.func 72) #[] #[.pointer (some ⟨qb,0,none⟩),.pointer (some ⟨rb,0,none⟩)],born:=1 },{ key:=.string ⟨#[112,104,105]⟩,val:=.func (.func 73) #[] #[.pointer (some ⟨qb,0,none⟩)],born:=2 }] 3)=w10:=hw10
  rw[hw10b]
  rw[hw10]at HS10 HM9
  clear hw10 hw10b
  have hlt10:=HLT0.out.keep (H.out.old.trans (HS9.out.trans HS10.out))
  refine (fields_terms w10 hlt10.tab).mono ?_
  rintro e11 w11 ⟨rfl,hst11,hs11⟩
  generalize w10.heap.size=fb at hst11 ⊢
  have hsx:Since w10 w11:=hs11
  have HS11:=Lib.hid hsx
  have HIX:=Lib.hid (Tryz.slices_Index_string fb 0 5 5 termNames f w11 (by decide) (by decide) (fun j hj=>hst11.2 j hj))
  clear hst11 hs11 hsx hlt10
  go_wp2_with fail
  refine HIX.out.mono ?_
  rintro e12 w12 ⟨rfl,hw12⟩
  obtain rfl:w11=w12:=hw12.symm
  have hidq:Lib.idxOfS (termNames.take 5) f=id:=HID.out
  rw[hidq]
  clear hidq
  go_wp2_with fail
  refine (number_any f w11 (HLT0.out.keep (H.out.old.trans (HS9.out.trans (HS10.out.trans HS11.out)))).tab).mono ?_
  rintro e13 w13 ⟨rfl,hs13⟩
  have hs13:Since w11 w13:=hs13
  rw[HOP.out]
  have HS13:=Lib.hid (HS10.out.trans (HS11.out.trans hs13))
  have HM13:=Lib.hid (show w13.heap[mb]? = some (.map (standsOf qb rb).toArray 3) from (Below.block (HS11.out.trans hs13) mb (by have:=(Array.getElem?_eq_some_iff.1 HM9.out).1;exact this)).trans HM9.out)
  obtain⟨fv,kn,hl1,hl2,hl3⟩:=stands_look f qb rb
  have hlk:=run_lookupS Tryz.underlying142 Tryz.underlying9 .nilFunc zero_test w13 (standsOf qb rb) mb 3 f HM13.out rfl
  rw[hl1,hl2]at hlk
  clear hl1 hl2 hs13 hmm hup hn1 hn2 hn3
  go_upto_region 8 with (fail)
  have hp13:=H.out.keep (HS9.out.trans HS13.out)
  have q13:w13.cell? ⟨qb,0,none⟩=some (.pointer (some ⟨pb,0,none⟩)):=(HQ9.out.keep HS13.out).cell 0
  have r13:w13.cell? ⟨rb,0,none⟩=some (.slice ra n (c-1)):=(HR9.out.keep HS13.out).cell 0
  have ql13:=(HQ9.out.keep HS13.out).lt
  have rl13:=(HR9.out.keep HS13.out).lt
  have HP13:=Lib.hid hp13
  have HT13:=Lib.hid (Turn.since (S:=fun q=>q=pb) (HS9.out.trans HS13.out))
  have HR13:=Lib.hid (StrsIn.keep HR.out (HS9.out.trans HS13.out))
  have HRS13:=Lib.hid (show Stays (PaOwn pb bv bl) w13 (.slice ra n (c-1)) from HRS.out.mono (fun q hq=>.inl hq) (HS9.out.trans HS13.out).size)
  have HE:Hid (∀ (m:Int) w',stepSt ⟨params,bl.map FBlk.d,pl⟩ (f::r)=.error m→m≠0→TPa w0 pb tv params pl m bv bl w'→Turn (fun q=>q=pb) w w'→LnTQ w0 pb tv params pl bv bl (f::r) w (.returned (.tuple #[])) w'):=Lib.hid (fun m w' h1 h2 h3 h4=>⟨rfl,params,pl,m,bv,bl,h3,h4.mono (fun q _ hq=>.inl hq),by rw[h1];exact⟨rfl,h2⟩⟩)
  have HAP:=Lib.hid (show ∀ q,PaOwn pb bv bl q→q<qb∧q<rb from fun q hq=>by have:=H.out.lt q hq;have:=HQB.out;have:=HRL.out;omega)
  have hqp:qb≠pb:=by have:=HAP.out pb (.inl rfl);omega
  have hrp:rb≠pb:=by have:=HAP.out pb (.inl rfl);omega
  obtain⟨hpl0,hpl3,hplb⟩:=HPL.out
  have HPLB:=Lib.hid hplb
  clear hp13 hplb hlk
  rcases hl3 with ⟨g1,rfl,rfl⟩|⟨g1,g2,rfl,rfl⟩|⟨g1,g2,g3,rfl,rfl⟩|⟨g1,g2,g3,rfl⟩
  ·have q1:(f.toList==[102,117,110,99])=true:=is_func g1
   have HSTEP:=Lib.hid (step_func (s:=⟨params,bl.map FBlk.d,pl⟩) (r:=r) g1)
   clear g1
   by_cases hp0:pl=0
   ·by_cases hn1:n=1
    ·subst hp0
     subst hn1
     have HOKB:=Lib.hid (show ((0:Int)==0&&((1:Nat):Int)==1)=true from rfl)
     obtain⟨x0,rfl⟩:=list1 HNN.out
     refine wp_region_since_tail 5 rfl (by decide +kernel) (by decide +kernel) (by decide +kernel) (by decide)
      [Is (.bool true),Is (.bool true),Is (.pointer (some ⟨pb,0,none⟩)),Is (.func (.func 71) #[] #[.pointer (some ⟨qb,0,none⟩),.pointer (some ⟨rb,0,none⟩)]),Is (.bool true)]
      (by repeat (first | exact trivial | refine⟨Is.stable _,?_⟩ | refine⟨Any.stable,?_⟩)) ⟨?_,?_,?_,?_,?_,trivial⟩ ?_
     rotate_right
     ·intro vs w14 hs hk
      simp only[List.take,List.drop,putAll,Act.put,KnowsAll,nthF,Is,List.setIfInBounds_toArray,List.set_cons_zero,List.set_cons_succ,Nat.reduceAdd]at hk ⊢
      try simp only[hk]
      have ht14:Turn (fun q=>q=pb) w13 w14:=Turn.since hs
      have q14:w14.cell? ⟨qb,0,none⟩=some (.pointer (some ⟨pb,0,none⟩)):=(ht14.cell (p:=⟨qb,0,none⟩) ql13 hqp).trans q13
      have r14:w14.cell? ⟨rb,0,none⟩=some (.slice ra 1 (c-1)):=(ht14.cell (p:=⟨rb,0,none⟩) rl13 hrp).trans r13
      have ql14:=Nat.lt_of_lt_of_le ql13 ht14.size
      have rl14:=Nat.lt_of_lt_of_le rl13 ht14.size
      have HP14:=Lib.hid (show TPa w0 pb tv params 0 0 bv bl w14 from HP13.out.keep hs)
      have HT14:=Lib.hid (HT13.out.trans ht14)
      have HR14:=Lib.hid (RowIn.turn HR13.out ht14 (fun q hq hr=>(HRS13.out q hq).1 (.inl hr)) (fun _ _ h=>h):StrsIn w14 (.slice ra 1 (c-1)) [x0])
      have HRS14:=Lib.hid (show Stays (PaOwn pb bv bl) w14 (.slice ra 1 (c-1)) from HRS13.out.mono (fun q hq=>.inl hq) ht14.size)
      clear q13 r13 ql13 rl13
      clear ht14 hs hk
      go_wp2_with fail
      refine (must_any w14 HP14.out true 70 (by decide)).mono ?_
      rintro e15 w15 ⟨rfl,hp,ht⟩
      have q15:w15.cell? ⟨qb,0,none⟩=some (.pointer (some ⟨pb,0,none⟩)):=(ht.cell (p:=⟨qb,0,none⟩) ql14 hqp).trans q14
      have r15:w15.cell? ⟨rb,0,none⟩=some (.slice ra 1 (c-1)):=(ht.cell (p:=⟨rb,0,none⟩) rl14 hrp).trans r14
      have ql15:=Nat.lt_of_lt_of_le ql14 ht.size
      have rl15:=Nat.lt_of_lt_of_le rl14 ht.size
      have HP15:=Lib.hid (show TPa w0 pb tv params 0 0 bv bl w15 from hp)
      have HT15:=Lib.hid (HT14.out.trans ht)
      have HR15:=Lib.hid (RowIn.turn HR14.out ht (fun q hq hr=>(HRS14.out q hq).1 (.inl hr)) (fun _ _ h=>h):StrsIn w15 (.slice ra 1 (c-1)) [x0])
      have HRS15:=Lib.hid (show Stays (PaOwn pb bv bl) w15 (.slice ra 1 (c-1)) from HRS14.out.mono (fun q hq=>.inl hq) ht.size)
      clear q14 r14 ql14 rl14
      clear hp ht
      go_wp2_with fail
      refine wp_region_since_tail 9 rfl (by decide +kernel) (by decide +kernel) (by decide +kernel) (by decide)
       [Is (.bool true),Is (.bool false),Is (.bool false),Any,Any,Any,Any,Any,Any]
       (by repeat (first | exact trivial | refine⟨Is.stable _,?_⟩ | refine⟨Any.stable,?_⟩)) ⟨?_,?_,?_,?_,?_,?_,?_,?_,?_,trivial⟩ ?_
      rotate_right
      ·intro vs w16 hs hk
       simp only[List.take,List.drop,putAll,Act.put,KnowsAll,nthF,Is,Any,List.setIfInBounds_toArray,List.set_cons_zero,List.set_cons_succ,Nat.reduceAdd]at hk ⊢
       try simp only[hk]
       have ht16:Turn (fun q=>q=pb) w15 w16:=Turn.since hs
       have q16:w16.cell? ⟨qb,0,none⟩=some (.pointer (some ⟨pb,0,none⟩)):=(ht16.cell (p:=⟨qb,0,none⟩) ql15 hqp).trans q15
       have r16:w16.cell? ⟨rb,0,none⟩=some (.slice ra 1 (c-1)):=(ht16.cell (p:=⟨rb,0,none⟩) rl15 hrp).trans r15
       have ql16:=Nat.lt_of_lt_of_le ql15 ht16.size
       have rl16:=Nat.lt_of_lt_of_le rl15 ht16.size
       have HP16:=Lib.hid (show TPa w0 pb tv params 0 0 bv bl w16 from HP15.out.keep hs)
       have HT16:=Lib.hid (HT15.out.trans ht16)
       have HR16:=Lib.hid (RowIn.turn HR15.out ht16 (fun q hq hr=>(HRS15.out q hq).1 (.inl hr)) (fun _ _ h=>h):StrsIn w16 (.slice ra 1 (c-1)) [x0])
       have HRS16:=Lib.hid (show Stays (PaOwn pb bv bl) w16 (.slice ra 1 (c-1)) from HRS15.out.mono (fun q hq=>.inl hq) ht16.size)
       clear q15 r15 ql15 rl15
       clear ht16 hs hk
       obtain⟨d,hd⟩:∃ d,numW x0=d:=⟨_,rfl⟩
       have HD:=Lib.hid hd
       have HPQ:=Lib.hid (show pb<qb from (HAP.out pb (.inl rfl)).1)
       clear hd
       go_wp2_with fail
       refine wp_region_one 6 3 [3] [0,0,0,0,1,1] [1,0,0,0,1,1] [0,0,0,1,0,0] (fun q=>q=pb) (fun p w18=>TPa w0 pb tv params 0 (([0,numsE 0 [x0]]:List Int).getD p 0) bv bl w18) rfl (by decide +kernel) (by decide +kernel) (by decide +kernel) (by decide) (by decide +kernel)
        [Is (.pointer (some ⟨pb,0,none⟩)),Is (.pointer (some ⟨pb,0,none⟩)),Is (.slice ra 1 (c-1)),NumRow qb d,NumPtr qb d,Is (.int .i64 d)]
        (by repeat (first | exact trivial | refine⟨fun h=>absurd rfl h,?_⟩ | refine⟨fun _=>Is.stableT _ _,?_⟩ | refine⟨fun _=>Any.stableT _,?_⟩ | refine⟨fun _=>NumPtr.stableT _ (fun q hq=>by rw[hq];exact HPQ.out),?_⟩)) (by repeat (first | exact trivial | refine⟨Is.stable _,?_⟩ | refine⟨Any.stable,?_⟩ | refine⟨NumRow.stable _ _,?_⟩ | refine⟨NumPtr.stable _ _,?_⟩)) (HP16.out.keep ((Since.refl w16).drew)) ⟨?_,?_,?_,?_,?_,?_,trivial⟩ ?_
       rotate_right
       ·intro vs w18 ht hph hk
        simp only[List.take,List.drop,putAll,Act.put,KnowsAll,nthF,Is,List.setIfInBounds_toArray,List.set_cons_zero,List.set_cons_succ,Nat.reduceAdd]at hk ⊢
        try simp only[hk]
        have hp8:TPa w0 pb tv params 0 (numsE 0 [x0]) bv bl w18:=hph
        have k0:w18.cell? ⟨pb,0,none⟩=some (.int .i64 params):=hp8.cell 0
        have k2:w18.cell? ⟨pb,2,none⟩=some (.int .i64 0):=hp8.cell 2
        have kl5:=hp8.box.lt
        have kf5:=hp8.box.frozen
        have q18:w18.cell? ⟨qb,0,none⟩=some (.pointer (some ⟨pb,0,none⟩)):=(ht.cell (p:=⟨qb,0,none⟩) ql16 hqp).trans q16
        have ql18:=Nat.lt_of_lt_of_le ql16 ht.size
        have HP5:=Lib.hid ((hp8.put 0 (.int .i64 d) (params':=d) (pl':=0) (e':=numsE 0 [x0]) (tl':=[tv]) rfl).put 2 (.int .i64 1) (params':=d) (pl':=1) (e':=numsE 0 [x0]) (tl':=[tv]) rfl)
        have HT5:=Lib.hid (HT16.out.trans ht)
        clear hp8 hph hk ht q16 r16 ql16 rl16
        go_wp2
        go_end0
        refine⟨rfl,d,1,numsE 0 [x0],bv,bl,HP5.out,((HT5.out.mono (fun q _ hq=>.inl hq)).setCell (p:=⟨pb,0,none⟩) (.inl rfl) _).setCell (p:=⟨pb,2,none⟩) (.inl rfl) _,?_⟩
        rw[HSTEP.out,if_pos (by simp)]
        unfold numsE
        cases hok:areNums [x0]
        ·exact⟨rfl,by decide⟩
        ·exact⟨rfl,by rw[←HD.out];rfl⟩
       all_goals
        intro p vs w18 hlo hhi ht hph hk
        simp only[List.take,putAll,Act.put,Knows,nthF,Is,List.setIfInBounds_toArray,List.set_cons_zero,List.set_cons_succ,Nat.reduceAdd]at hk ⊢
        try simp only[hk]
       ·have z1:w18.cell? ⟨qb,0,none⟩=some (.pointer (some ⟨pb,0,none⟩)):=(ht.cell (p:=⟨qb,0,none⟩) ql16 hqp).trans q16
        have z2:qb<w18.heap.size:=Nat.lt_of_lt_of_le ql16 ht.size
        go_wp2
        exact⟨_,rfl,rfl,Since.refl _,hph⟩
       ·have z1:w18.cell? ⟨qb,0,none⟩=some (.pointer (some ⟨pb,0,none⟩)):=(ht.cell (p:=⟨qb,0,none⟩) ql16 hqp).trans q16
        have z2:qb<w18.heap.size:=Nat.lt_of_lt_of_le ql16 ht.size
        go_wp2
        exact⟨_,rfl,rfl,Since.refl _,hph⟩
       ·have z1:w18.cell? ⟨rb,0,none⟩=some (.slice ra 1 (c-1)):=(ht.cell (p:=⟨rb,0,none⟩) rl16 hrp).trans r16
        have z2:rb<w18.heap.size:=Nat.lt_of_lt_of_le rl16 ht.size
        go_wp2
        exact⟨_,rfl,rfl,Since.refl _,hph⟩
       ·obtain rfl:p=0:=by omega
        have hp8:TPa w0 pb tv params 0 0 bv bl w18:=hph
        have hr8:StrsIn w18 (.slice ra 1 (c-1)) [x0]:=RowIn.turn HR16.out ht (fun q hq hr=>(HRS16.out q hq).1 (.inl hr)) (fun _ _ h=>h)
        have hs8:Stays (fun q=>q=pb) w18 (.slice ra 1 (c-1)):=HRS16.out.mono (fun q hq=>.inl (.inl hq)) ht.size
        have hqz:=Nat.lt_of_lt_of_le ql16 ht.size
        clear hk hph
        go_wp2_with fail
        refine (nums_any w18 hp8 HLT0.out _ [x0] hr8 hs8 (by simp)).mono ?_
        rintro e9 w19 ⟨rv,rfl,hrow,hp9,ht9⟩
        obtain⟨g,gc,rfl,hg1,hg2,hg3,hgl,hgc⟩:=own_one (show w19.ownsRow _ _ 1 _ 1 [.int .i64 (numW x0)] from hrow)
        rw[HD.out]at hgc
        have HX:=Lib.hid (show NumRow qb d (.slice (some ⟨g,0,none⟩) 1 gc) w19 from⟨g,gc,rfl,by omega,hgl,hgc⟩)
        have HT9:=Lib.hid ht9
        have HP9:=Lib.hid hp9
        clear hp8 hr8 hs8 hrow hp9 ht9 hgc hgl
        go_wp2
        exact⟨_,rfl,HX.out,HT9.out,HP9.out⟩
       ·obtain⟨g,gc,hv3,hg1,hg2,hg3⟩:NumRow qb d (vs 3) w18:=hk.1
        simp only[hv3]
        have HX:=Lib.hid (show NumPtr qb d (.pointer (some ⟨g,0,none⟩)) w18 from⟨g,rfl,hg1,hg2,hg3⟩)
        clear hk hv3
        go_wp2
        exact⟨_,rfl,HX.out,Since.refl _,hph⟩
       ·obtain⟨g,hv3,hg1,hg2,hg3⟩:NumPtr qb d (vs 4) w18:=hk.1
        simp only[hv3]
        clear hk hv3
        go_wp2
        exact⟨_,rfl,rfl,Since.refl _,hph⟩
      all_goals
       intro vs w16 hs hk _
       simp only[List.take,putAll,Act.put,Knows,nthF,Is,Any,List.setIfInBounds_toArray,List.set_cons_zero,List.set_cons_succ,Nat.reduceAdd]at hk ⊢
       try simp only[hk]
      ·go_wp2
       exact⟨_,rfl,rfl,Since.refl _⟩
      ·go_wp2
       exact⟨_,rfl,rfl,Since.refl _⟩
      ·go_wp2
       exact⟨_,rfl,rfl,Since.refl _⟩
      ·go_wp2
       exact⟨_,(put_old _ 68).symm,trivial,Since.refl _⟩
      ·go_wp2
       exact⟨_,(put_old _ 69).symm,trivial,Since.refl _⟩
      ·go_wp2
       exact⟨_,(put_old _ 70).symm,trivial,Since.refl _⟩
      ·go_wp2
       exact⟨_,(put_old _ 71).symm,trivial,Since.refl _⟩
      ·go_wp2
       exact⟨_,(put_old _ 72).symm,trivial,Since.refl _⟩
      ·go_wp2
       exact⟨_,(put_old _ 73).symm,trivial,Since.refl _⟩
     all_goals
      intro vs w14 hs hk _
      simp only[List.take,putAll,Act.put,Knows,nthF,Is,List.setIfInBounds_toArray,List.set_cons_zero,List.set_cons_succ,Nat.reduceAdd]at hk ⊢
      try simp only[hk]
     ·go_wp2
      exact⟨_,rfl,rfl,Since.refl _⟩
     ·go_wp2
      exact⟨_,rfl,rfl,Since.refl _⟩
     ·have z1:w14.cell? ⟨qb,0,none⟩=some (.pointer (some ⟨pb,0,none⟩)):=(hs.cell (p:=⟨qb,0,none⟩) ql13).trans q13
      have z2:qb<w14.heap.size:=Nat.lt_of_lt_of_le ql13 hs.size
      go_wp2
      exact⟨_,rfl,rfl,Since.refl _⟩
     ·go_wp2
      exact⟨_,rfl,rfl,Since.refl _⟩
     ·have y1:w14.cell? ⟨qb,0,none⟩=some (.pointer (some ⟨pb,0,none⟩)):=(hs.cell (p:=⟨qb,0,none⟩) ql13).trans q13
      have y2:w14.cell? ⟨rb,0,none⟩=some (.slice ra 1 (c-1)):=(hs.cell (p:=⟨rb,0,none⟩) rl13).trans r13
      have y3:w14.cell? ⟨pb,2,none⟩=some (.int .i64 0):=(HP13.out.keep hs).cell 2
      have y4:pb<w14.heap.size:=(HP13.out.keep hs).box.lt
      go_wp2_with fail
      refine (ok1_any w14 y1 y2 y3 (Nat.lt_of_lt_of_le ql13 hs.size) (Nat.lt_of_lt_of_le rl13 hs.size) y4).mono ?_
      rintro e15 w15 ⟨rfl,hw15⟩
      obtain rfl:w14=w15:=hw15.symm
      rw[HOKB.out]
      go_wp2
      exact⟨_,rfl,rfl,Since.refl _⟩
    ·have HOKB:=Lib.hid (show (pl==0&&(n:Int)==1)=false from by simp;omega)
     have HZ:=Lib.hid (show stepSt ⟨params,bl.map FBlk.d,pl⟩ (f::r)=.error 70 from by rw[HSTEP.out,if_neg];rw[HNN.out];exact fun h=>hn1 h.2)
     clear hp0 hn1
     refine wp_region_since_tail 5 rfl (by decide +kernel) (by decide +kernel) (by decide +kernel) (by decide)
      [Is (.bool true),Is (.bool true),Is (.pointer (some ⟨pb,0,none⟩)),Is (.func (.func 71) #[] #[.pointer (some ⟨qb,0,none⟩),.pointer (some ⟨rb,0,none⟩)]),Is (.bool false)]
      (by repeat (first | exact trivial | refine⟨Is.stable _,?_⟩ | refine⟨Any.stable,?_⟩)) ⟨?_,?_,?_,?_,?_,trivial⟩ ?_
     rotate_right
     ·intro vs w14 hs hk
      simp only[List.take,List.drop,putAll,Act.put,KnowsAll,nthF,Is,List.setIfInBounds_toArray,List.set_cons_zero,List.set_cons_succ,Nat.reduceAdd]at hk ⊢
      try simp only[hk]
      have ht14:Turn (fun q=>q=pb) w13 w14:=Turn.since hs
      have q14:w14.cell? ⟨qb,0,none⟩=some (.pointer (some ⟨pb,0,none⟩)):=(ht14.cell (p:=⟨qb,0,none⟩) ql13 hqp).trans q13
      have r14:w14.cell? ⟨rb,0,none⟩=some (.slice ra n (c-1)):=(ht14.cell (p:=⟨rb,0,none⟩) rl13 hrp).trans r13
      have ql14:=Nat.lt_of_lt_of_le ql13 ht14.size
      have rl14:=Nat.lt_of_lt_of_le rl13 ht14.size
      have HP14:=Lib.hid (show TPa w0 pb tv params pl 0 bv bl w14 from HP13.out.keep hs)
      have HT14:=Lib.hid (HT13.out.trans ht14)
      have HR14:=Lib.hid (RowIn.turn HR13.out ht14 (fun q hq hr=>(HRS13.out q hq).1 (.inl hr)) (fun _ _ h=>h):StrsIn w14 (.slice ra n (c-1)) r)
      have HRS14:=Lib.hid (show Stays (PaOwn pb bv bl) w14 (.slice ra n (c-1)) from HRS13.out.mono (fun q hq=>.inl hq) ht14.size)
      clear q13 r13 ql13 rl13
      clear ht14 hs hk
      go_wp2_with fail
      refine (must_any w14 HP14.out false 70 (by decide)).mono ?_
      rintro e15 w15 ⟨rfl,hp,ht⟩
      have HF:=Lib.hid (HE.out 70 w15 HZ.out (by decide) hp (HT14.out.trans ht))
      clear hp ht q14 r14 ql14 rl14
      go_wp2
      go_end0
      exact HF.out
     all_goals
      intro vs w14 hs hk _
      simp only[List.take,putAll,Act.put,Knows,nthF,Is,List.setIfInBounds_toArray,List.set_cons_zero,List.set_cons_succ,Nat.reduceAdd]at hk ⊢
      try simp only[hk]
     ·go_wp2
      exact⟨_,rfl,rfl,Since.refl _⟩
     ·go_wp2
      exact⟨_,rfl,rfl,Since.refl _⟩
     ·have z1:w14.cell? ⟨qb,0,none⟩=some (.pointer (some ⟨pb,0,none⟩)):=(hs.cell (p:=⟨qb,0,none⟩) ql13).trans q13
      have z2:qb<w14.heap.size:=Nat.lt_of_lt_of_le ql13 hs.size
      go_wp2
      exact⟨_,rfl,rfl,Since.refl _⟩
     ·go_wp2
      exact⟨_,rfl,rfl,Since.refl _⟩
     ·have y1:w14.cell? ⟨qb,0,none⟩=some (.pointer (some ⟨pb,0,none⟩)):=(hs.cell (p:=⟨qb,0,none⟩) ql13).trans q13
      have y2:w14.cell? ⟨rb,0,none⟩=some (.slice ra n (c-1)):=(hs.cell (p:=⟨rb,0,none⟩) rl13).trans r13
      have y3:w14.cell? ⟨pb,2,none⟩=some (.int .i64 pl):=(HP13.out.keep hs).cell 2
      have y4:pb<w14.heap.size:=(HP13.out.keep hs).box.lt
      go_wp2_with fail
      refine (ok1_any w14 y1 y2 y3 (Nat.lt_of_lt_of_le ql13 hs.size) (Nat.lt_of_lt_of_le rl13 hs.size) y4).mono ?_
      rintro e15 w15 ⟨rfl,hw15⟩
      obtain rfl:w14=w15:=hw15.symm
      rw[HOKB.out]
      go_wp2
      exact⟨_,rfl,rfl,Since.refl _⟩
   ·have HOKB:=Lib.hid (show (pl==0&&(n:Int)==1)=false from by simp[hp0])
    have HZ:=Lib.hid (show stepSt ⟨params,bl.map FBlk.d,pl⟩ (f::r)=.error 70 from by rw[HSTEP.out,if_neg];exact fun h=>hp0 h.1)
    clear hp0
    refine wp_region_since_tail 5 rfl (by decide +kernel) (by decide +kernel) (by decide +kernel) (by decide)
     [Is (.bool true),Is (.bool true),Is (.pointer (some ⟨pb,0,none⟩)),Is (.func (.func 71) #[] #[.pointer (some ⟨qb,0,none⟩),.pointer (some ⟨rb,0,none⟩)]),Is (.bool false)]
     (by repeat (first | exact trivial | refine⟨Is.stable _,?_⟩ | refine⟨Any.stable,?_⟩)) ⟨?_,?_,?_,?_,?_,trivial⟩ ?_
    rotate_right
    ·intro vs w14 hs hk
     simp only[List.take,List.drop,putAll,Act.put,KnowsAll,nthF,Is,List.setIfInBounds_toArray,List.set_cons_zero,List.set_cons_succ,Nat.reduceAdd]at hk ⊢
     try simp only[hk]
     have ht14:Turn (fun q=>q=pb) w13 w14:=Turn.since hs
     have q14:w14.cell? ⟨qb,0,none⟩=some (.pointer (some ⟨pb,0,none⟩)):=(ht14.cell (p:=⟨qb,0,none⟩) ql13 hqp).trans q13
     have r14:w14.cell? ⟨rb,0,none⟩=some (.slice ra n (c-1)):=(ht14.cell (p:=⟨rb,0,none⟩) rl13 hrp).trans r13
     have ql14:=Nat.lt_of_lt_of_le ql13 ht14.size
     have rl14:=Nat.lt_of_lt_of_le rl13 ht14.size
     have HP14:=Lib.hid (show TPa w0 pb tv params pl 0 bv bl w14 from HP13.out.keep hs)
     have HT14:=Lib.hid (HT13.out.trans ht14)
     have HR14:=Lib.hid (RowIn.turn HR13.out ht14 (fun q hq hr=>(HRS13.out q hq).1 (.inl hr)) (fun _ _ h=>h):StrsIn w14 (.slice ra n (c-1)) r)
     have HRS14:=Lib.hid (show Stays (PaOwn pb bv bl) w14 (.slice ra n (c-1)) from HRS13.out.mono (fun q hq=>.inl hq) ht14.size)
     clear q13 r13 ql13 rl13
     clear ht14 hs hk
     go_wp2_with fail
     refine (must_any w14 HP14.out false 70 (by decide)).mono ?_
     rintro e15 w15 ⟨rfl,hp,ht⟩
     have HF:=Lib.hid (HE.out 70 w15 HZ.out (by decide) hp (HT14.out.trans ht))
     clear hp ht q14 r14 ql14 rl14
     go_wp2
     go_end0
     exact HF.out
    all_goals
     intro vs w14 hs hk _
     simp only[List.take,putAll,Act.put,Knows,nthF,Is,List.setIfInBounds_toArray,List.set_cons_zero,List.set_cons_succ,Nat.reduceAdd]at hk ⊢
     try simp only[hk]
    ·go_wp2
     exact⟨_,rfl,rfl,Since.refl _⟩
    ·go_wp2
     exact⟨_,rfl,rfl,Since.refl _⟩
    ·have z1:w14.cell? ⟨qb,0,none⟩=some (.pointer (some ⟨pb,0,none⟩)):=(hs.cell (p:=⟨qb,0,none⟩) ql13).trans q13
     have z2:qb<w14.heap.size:=Nat.lt_of_lt_of_le ql13 hs.size
     go_wp2
     exact⟨_,rfl,rfl,Since.refl _⟩
    ·go_wp2
     exact⟨_,rfl,rfl,Since.refl _⟩
    ·have y1:w14.cell? ⟨qb,0,none⟩=some (.pointer (some ⟨pb,0,none⟩)):=(hs.cell (p:=⟨qb,0,none⟩) ql13).trans q13
     have y2:w14.cell? ⟨rb,0,none⟩=some (.slice ra n (c-1)):=(hs.cell (p:=⟨rb,0,none⟩) rl13).trans r13
     have y3:w14.cell? ⟨pb,2,none⟩=some (.int .i64 pl):=(HP13.out.keep hs).cell 2
     have y4:pb<w14.heap.size:=(HP13.out.keep hs).box.lt
     go_wp2_with fail
     refine (ok1_any w14 y1 y2 y3 (Nat.lt_of_lt_of_le ql13 hs.size) (Nat.lt_of_lt_of_le rl13 hs.size) y4).mono ?_
     rintro e15 w15 ⟨rfl,hw15⟩
     obtain rfl:w14=w15:=hw15.symm
     rw[HOKB.out]
     go_wp2
     exact⟨_,rfl,rfl,Since.refl _⟩
  ·have q1:(f.toList==[102,117,110,99])=false:=not_func g1
   have q2:(f.toList==[98,108,111,99,107])=true:=is_block g2
   have HSTEP:=Lib.hid (step_block (s:=⟨params,bl.map FBlk.d,pl⟩) (r:=r) g1 g2)
   clear g1 g2
   by_cases hp0:pl=1
   ·by_cases hn1:n=1
    ·subst hp0
     subst hn1
     have HOKB:=Lib.hid (show ((1:Int)==1&&((1:Nat):Int)==1)=true from rfl)
     obtain⟨x0,rfl⟩:=list1 HNN.out
     refine wp_region_since_tail 5 rfl (by decide +kernel) (by decide +kernel) (by decide +kernel) (by decide)
      [Is (.bool true),Is (.bool true),Is (.pointer (some ⟨pb,0,none⟩)),Is (.func (.func 72) #[] #[.pointer (some ⟨qb,0,none⟩),.pointer (some ⟨rb,0,none⟩)]),Is (.bool true)]
      (by repeat (first | exact trivial | refine⟨Is.stable _,?_⟩ | refine⟨Any.stable,?_⟩)) ⟨?_,?_,?_,?_,?_,trivial⟩ ?_
     rotate_right
     ·intro vs w14 hs hk
      simp only[List.take,List.drop,putAll,Act.put,KnowsAll,nthF,Is,List.setIfInBounds_toArray,List.set_cons_zero,List.set_cons_succ,Nat.reduceAdd]at hk ⊢
      try simp only[hk]
      have ht14:Turn (fun q=>q=pb) w13 w14:=Turn.since hs
      have q14:w14.cell? ⟨qb,0,none⟩=some (.pointer (some ⟨pb,0,none⟩)):=(ht14.cell (p:=⟨qb,0,none⟩) ql13 hqp).trans q13
      have r14:w14.cell? ⟨rb,0,none⟩=some (.slice ra 1 (c-1)):=(ht14.cell (p:=⟨rb,0,none⟩) rl13 hrp).trans r13
      have ql14:=Nat.lt_of_lt_of_le ql13 ht14.size
      have rl14:=Nat.lt_of_lt_of_le rl13 ht14.size
      have HP14:=Lib.hid (show TPa w0 pb tv params 1 0 bv bl w14 from HP13.out.keep hs)
      have HT14:=Lib.hid (HT13.out.trans ht14)
      have HR14:=Lib.hid (RowIn.turn HR13.out ht14 (fun q hq hr=>(HRS13.out q hq).1 (.inl hr)) (fun _ _ h=>h):StrsIn w14 (.slice ra 1 (c-1)) [x0])
      have HRS14:=Lib.hid (show Stays (PaOwn pb bv bl) w14 (.slice ra 1 (c-1)) from HRS13.out.mono (fun q hq=>.inl hq) ht14.size)
      clear q13 r13 ql13 rl13
      clear ht14 hs hk
      go_wp2_with fail
      refine (must_any w14 HP14.out true 70 (by decide)).mono ?_
      rintro e15 w15 ⟨rfl,hp,ht⟩
      have q15:w15.cell? ⟨qb,0,none⟩=some (.pointer (some ⟨pb,0,none⟩)):=(ht.cell (p:=⟨qb,0,none⟩) ql14 hqp).trans q14
      have r15:w15.cell? ⟨rb,0,none⟩=some (.slice ra 1 (c-1)):=(ht.cell (p:=⟨rb,0,none⟩) rl14 hrp).trans r14
      have ql15:=Nat.lt_of_lt_of_le ql14 ht.size
      have rl15:=Nat.lt_of_lt_of_le rl14 ht.size
      have HP15:=Lib.hid (show TPa w0 pb tv params 1 0 bv bl w15 from hp)
      have HT15:=Lib.hid (HT14.out.trans ht)
      have HR15:=Lib.hid (RowIn.turn HR14.out ht (fun q hq hr=>(HRS14.out q hq).1 (.inl hr)) (fun _ _ h=>h):StrsIn w15 (.slice ra 1 (c-1)) [x0])
      have HRS15:=Lib.hid (show Stays (PaOwn pb bv bl) w15 (.slice ra 1 (c-1)) from HRS14.out.mono (fun q hq=>.inl hq) ht.size)
      clear q14 r14 ql14 rl14
      clear hp ht
      go_wp2_with fail
      refine wp_region_since_tail 9 rfl (by decide +kernel) (by decide +kernel) (by decide +kernel) (by decide)
       [Is (.bool true),Is (.bool false),Is (.bool false),Any,Any,Any,Any,Any,Any]
       (by repeat (first | exact trivial | refine⟨Is.stable _,?_⟩ | refine⟨Any.stable,?_⟩)) ⟨?_,?_,?_,?_,?_,?_,?_,?_,?_,trivial⟩ ?_
      rotate_right
      ·intro vs w16 hs hk
       simp only[List.take,List.drop,putAll,Act.put,KnowsAll,nthF,Is,Any,List.setIfInBounds_toArray,List.set_cons_zero,List.set_cons_succ,Nat.reduceAdd]at hk ⊢
       try simp only[hk]
       have ht16:Turn (fun q=>q=pb) w15 w16:=Turn.since hs
       have q16:w16.cell? ⟨qb,0,none⟩=some (.pointer (some ⟨pb,0,none⟩)):=(ht16.cell (p:=⟨qb,0,none⟩) ql15 hqp).trans q15
       have r16:w16.cell? ⟨rb,0,none⟩=some (.slice ra 1 (c-1)):=(ht16.cell (p:=⟨rb,0,none⟩) rl15 hrp).trans r15
       have ql16:=Nat.lt_of_lt_of_le ql15 ht16.size
       have rl16:=Nat.lt_of_lt_of_le rl15 ht16.size
       have HP16:=Lib.hid (show TPa w0 pb tv params 1 0 bv bl w16 from HP15.out.keep hs)
       have HT16:=Lib.hid (HT15.out.trans ht16)
       have HR16:=Lib.hid (RowIn.turn HR15.out ht16 (fun q hq hr=>(HRS15.out q hq).1 (.inl hr)) (fun _ _ h=>h):StrsIn w16 (.slice ra 1 (c-1)) [x0])
       have HRS16:=Lib.hid (show Stays (PaOwn pb bv bl) w16 (.slice ra 1 (c-1)) from HRS15.out.mono (fun q hq=>.inl hq) ht16.size)
       clear q15 r15 ql15 rl15
       clear ht16 hs hk
       go_wp2_with fail
       refine (nums_any w16 HP16.out HLT0.out _ [x0] HR16.out (HRS16.out.mono (fun q hq=>.inl (.inl hq)) (Nat.le_refl _)) (by simp)).mono ?_
       rintro e5 w17 ⟨rv,rfl,hrow,hp5,ht5⟩
       obtain⟨g,gc,rfl,hg1,hg2,hg3,hgl,hgc⟩:=own_one (show w17.ownsRow _ _ 1 _ 1 [.int .i64 (numW x0)] from hrow)
       obtain⟨d,hd⟩:∃ d,numW x0=d:=⟨_,rfl⟩
       rw[hd]at hgc
       have HD:=Lib.hid hd
       have q17:w17.cell? ⟨qb,0,none⟩=some (.pointer (some ⟨pb,0,none⟩)):=(ht5.cell (p:=⟨qb,0,none⟩) ql16 hqp).trans q16
       have r17:w17.cell? ⟨rb,0,none⟩=some (.slice ra 1 (c-1)):=(ht5.cell (p:=⟨rb,0,none⟩) rl16 hrp).trans r16
       have ql17:=Nat.lt_of_lt_of_le ql16 ht5.size
       have rl17:=Nat.lt_of_lt_of_le rl16 ht5.size
       have HP17:=Lib.hid (show TPa w0 pb tv params 1 (numsE 0 [x0]) bv bl w17 from hp5)
       have HT17:=Lib.hid (HT16.out.trans ht5)
       have HR17:=Lib.hid (RowIn.turn HR16.out ht5 (fun q hq hr=>(HRS16.out q hq).1 (.inl hr)) (fun _ _ h=>h):StrsIn w17 (.slice ra 1 (c-1)) [x0])
       have HRS17:=Lib.hid (show Stays (PaOwn pb bv bl) w17 (.slice ra 1 (c-1)) from HRS16.out.mono (fun q hq=>.inl hq) ht5.size)
       clear q16 r16 ql16 rl16
       obtain⟨ba,bc,hbv⟩:=own_shape hp5.row
       obtain⟨bn,hbn⟩:∃ bn,bl.length=bn:=⟨_,rfl⟩
       rw[hbn]at hbv
       subst hbv
       have HBN:=Lib.hid hbn
       rw[hbn]at hb1
       have HC1:=Lib.hid (show w17.cell? ⟨pb,1,none⟩=some (.slice ba bn bc) from hp5.cell 1)
       have HLT:=Lib.hid hp5.box.lt
       clear hp5 ht5 hrow hd hbn
       go_wp2_with fail
       refine wp_region_since_tail 9 rfl (by decide +kernel) (by decide +kernel) (by decide +kernel) (by decide)
        [Is (.pointer (some ⟨pb,0,none⟩)),Is (.int .i64 d),Is (.pointer (some ⟨pb,0,none⟩)),Is (.pointer (some ⟨pb,0,none⟩)),Is (.pointer (some ⟨pb,0,none⟩)),Is (.pointer (some ⟨pb,1,none⟩)),Is (.slice ba bn bc),Is (.int .i64 bn),Is (.bool (d==bn))]
        (by repeat (first | exact trivial | refine⟨Is.stable _,?_⟩ | refine⟨Any.stable,?_⟩)) ⟨?_,?_,?_,?_,?_,?_,?_,?_,?_,trivial⟩ ?_
       rotate_right
       ·intro vs w18 hs hk
        simp only[List.take,List.drop,putAll,Act.put,KnowsAll,nthF,Is,List.setIfInBounds_toArray,List.set_cons_zero,List.set_cons_succ,Nat.reduceAdd]at hk ⊢
        try simp only[hk]
        have ht18:Turn (fun q=>q=pb) w17 w18:=Turn.since hs
        have q18:w18.cell? ⟨qb,0,none⟩=some (.pointer (some ⟨pb,0,none⟩)):=(ht18.cell (p:=⟨qb,0,none⟩) ql17 hqp).trans q17
        have r18:w18.cell? ⟨rb,0,none⟩=some (.slice ra 1 (c-1)):=(ht18.cell (p:=⟨rb,0,none⟩) rl17 hrp).trans r17
        have ql18:=Nat.lt_of_lt_of_le ql17 ht18.size
        have rl18:=Nat.lt_of_lt_of_le rl17 ht18.size
        have HP18:=Lib.hid (show TPa w0 pb tv params 1 (numsE 0 [x0]) (.slice ba bn bc) bl w18 from HP17.out.keep hs)
        have HT18:=Lib.hid (HT17.out.trans ht18)
        have HR18:=Lib.hid (RowIn.turn HR17.out ht18 (fun q hq hr=>(HRS17.out q hq).1 (.inl hr)) (fun _ _ h=>h):StrsIn w18 (.slice ra 1 (c-1)) [x0])
        have HRS18:=Lib.hid (show Stays (PaOwn pb (.slice ba bn bc) bl) w18 (.slice ra 1 (c-1)) from HRS17.out.mono (fun q hq=>.inl hq) ht18.size)
        clear q17 r17 ql17 rl17
        clear ht18 hs hk
        go_wp2_with fail
        refine (must_any w18 HP18.out _ 70 (by decide)).mono ?_
        rintro e7 w19 ⟨rfl,hp7,ht7⟩
        obtain⟨E,hE⟩:∃ E,failE (numsE 0 [x0]) (!(d==(bn:Int))) 70=E:=⟨_,rfl⟩
        rw[hE]at hp7 ⊢
        have HEE:=Lib.hid hE
        have q19:w19.cell? ⟨qb,0,none⟩=some (.pointer (some ⟨pb,0,none⟩)):=(ht7.cell (p:=⟨qb,0,none⟩) ql18 hqp).trans q18
        have r19:w19.cell? ⟨rb,0,none⟩=some (.slice ra 1 (c-1)):=(ht7.cell (p:=⟨rb,0,none⟩) rl18 hrp).trans r18
        have ql19:=Nat.lt_of_lt_of_le ql18 ht7.size
        have rl19:=Nat.lt_of_lt_of_le rl18 ht7.size
        have HP19:=Lib.hid (show TPa w0 pb tv params 1 E (.slice ba bn bc) bl w19 from hp7)
        have HT19:=Lib.hid (HT18.out.trans ht7)
        have HR19:=Lib.hid (RowIn.turn HR18.out ht7 (fun q hq hr=>(HRS18.out q hq).1 (.inl hr)) (fun _ _ h=>h):StrsIn w19 (.slice ra 1 (c-1)) [x0])
        have HRS19:=Lib.hid (show Stays (PaOwn pb (.slice ba bn bc) bl) w19 (.slice ra 1 (c-1)) from HRS18.out.mono (fun q hq=>.inl hq) ht7.size)
        clear q18 r18 ql18 rl18
        have HC19:=Lib.hid (show w19.cell? ⟨pb,1,none⟩=some (.slice ba bn bc) from hp7.cell 1)
        have HL19:=Lib.hid hp7.box.lt
        have HRW:=Lib.hid hp7.row
        have HNO:=Lib.hid (show ¬ (Value.slice ba bn bc).ownBlock=some pb∧¬ (Value.slice ba bn bc).ownBlock=some qb from⟨own_not hp7.row hp7.box (by decide),fun e=>by have:=HAP.out qb (.inr (.inl e));omega⟩)
        clear hp7 ht7 hE
        go_wp2_with fail
        refine wp_region_one 9 8 [8] [0,0,0,0,0,0,0,0,0] [1,0,0,0,0,0,0,0,0] [0,0,0,0,0,0,0,0,1] (fun q=>(Value.slice ba bn bc).ownBlock=some q) (fun p w20=>p=0→Since w19 w20) rfl (by decide +kernel) (by decide +kernel) (by decide +kernel) (by decide) (by decide +kernel)
         [Is (.pointer (some ⟨pb,0,none⟩)),Is (.pointer (some ⟨pb,0,none⟩)),Is (.pointer (some ⟨pb,0,none⟩)),Is (.pointer (some ⟨pb,0,none⟩)),Is (.pointer (some ⟨pb,1,none⟩)),Is (.slice ba bn bc),Is (.agg #[.slice none 0 0,.slice none 0 0,.int .i64 0,.slice none 0 0,.slice none 0 0,.int .i32 0]),OneOf fbcells 57 (fun q=>(Value.slice ba bn bc).ownBlock=some q) fbZero,AppOf fbcells 6 57 w19 (.slice ba bn bc) (bl++[fbZero])]
         (by repeat (first | exact trivial | refine⟨fun h=>absurd rfl h,?_⟩ | refine⟨fun _=>Is.stableT _ _,?_⟩ | refine⟨fun _=>Any.stableT _,?_⟩ | refine⟨fun _=>OneOf.stableT _ _ _ _,?_⟩)) (by repeat (first | exact trivial | refine⟨Is.stable _,?_⟩ | refine⟨Any.stable,?_⟩ | refine⟨OneOf.stable _ _ _ _,?_⟩ | refine⟨AppOf.stable _ _ _ _ _ _,?_⟩)) (fun _=>(Since.refl w19).drew) ⟨?_,?_,?_,?_,?_,?_,?_,?_,?_,trivial⟩ ?_
        rotate_right
        ·intro vs w20 ht hph hk
         simp only[List.take,List.drop,putAll,Act.put,KnowsAll,nthF,Is,List.setIfInBounds_toArray,List.set_cons_zero,List.set_cons_succ,Nat.reduceAdd]at hk ⊢
         try simp only[hk]
         obtain⟨wa,hsa,hta,hnew,hown⟩:AppOf fbcells 6 57 w19 (.slice ba bn bc) (bl++[fbZero]) (vs 8) w20:=by exact hk.2.2.2.2.2.2.2.2.1
         generalize vs 8=nw at *
         obtain⟨va,vc,hv9⟩:=own_shape hown
         rw[List.length_append,HBN.out]at hv9
         subst hv9
         have hb9:=HP19.out.box.turn ht HNO.out.1
         have j1:w20.cell? ⟨pb,1,none⟩=some (.slice ba bn bc):=hb9.cell 1
         have j2:w20.cell? ⟨pb,2,none⟩=some (.int .i64 1):=hb9.cell 2
         have jl:=hb9.lt
         have jf:=hb9.frozen
         have q20:w20.cell? ⟨qb,0,none⟩=some (.pointer (some ⟨pb,0,none⟩)):=(ht.cell ql19 HNO.out.2).trans q19
         have ql20:=Nat.lt_of_lt_of_le ql19 ht.size
         have HADD:=Lib.hid (((HP19.out.keep hsa).addBlock hown hta hnew).put 2 (.int .i64 2) (params':=params) (pl':=2) (e':=E) (tl':=[tv]) rfl)
         have HTF:=Lib.hid ((HT19.out.mono fun q _ hq=>.inl hq:Turn (PaOwn pb (.slice ba bn bc) bl) w w19).later ht fun q hq=>.inl (.inr (.inl hq)))
         clear hk hph ht hsa hta hnew hb9 hown q19 r19 ql19 rl19
         go_wp2
         go_end0
         refine⟨rfl,params,2,E,_,_,HADD.out,(HTF.out.setCell (p:=⟨pb,1,none⟩) (.inl rfl) _).setCell (p:=⟨pb,2,none⟩) (.inl rfl) _,?_⟩
         rw[HSTEP.out,if_pos (by simp),←HEE.out]
         have hnw:(numsW [x0]).getD 0 0=d:=by rw[←HD.out];rfl
         rw[hnw,List.length_map,HBN.out]
         cases hok:areNums [x0]
         ·rw[if_neg (by simp)]
          have:numsE 0 [x0]=71:=by unfold numsE;rw[hok];rfl
          rw[this]
          exact⟨by unfold failE;rw[if_neg (by simp)],by decide⟩
         ·rw[if_pos rfl]
          have:numsE 0 [x0]=0:=by unfold numsE;rw[hok];rfl
          rw[this]
          by_cases hd2:d=bn
          ·rw[if_pos hd2]
           exact⟨by unfold failE;rw[if_neg (by simp[hd2])],by simp[FBlk.d,fbZero,zeroBlk,FTerm.d]⟩
          ·rw[if_neg hd2]
           exact⟨by unfold failE;rw[if_pos ⟨by simpa using hd2,rfl⟩],by decide⟩
        all_goals
         intro p vs w20 hlo hhi ht hph hk
         simp only[List.take,putAll,Act.put,Knows,nthF,Is,List.setIfInBounds_toArray,List.set_cons_zero,List.set_cons_succ,Nat.reduceAdd]at hk ⊢
         try simp only[hk]
        ·have z1:w20.cell? ⟨qb,0,none⟩=some (.pointer (some ⟨pb,0,none⟩)):=(ht.cell ql19 HNO.out.2).trans q19
         have z2:qb<w20.heap.size:=Nat.lt_of_lt_of_le ql19 ht.size
         go_wp2
         exact⟨_,rfl,rfl,Since.refl _,hph⟩
        ·have z1:w20.cell? ⟨qb,0,none⟩=some (.pointer (some ⟨pb,0,none⟩)):=(ht.cell ql19 HNO.out.2).trans q19
         have z2:qb<w20.heap.size:=Nat.lt_of_lt_of_le ql19 ht.size
         go_wp2
         exact⟨_,rfl,rfl,Since.refl _,hph⟩
        ·go_wp2
         exact⟨_,rfl,rfl,Since.refl _,hph⟩
        ·go_wp2
         exact⟨_,rfl,rfl,Since.refl _,hph⟩
        ·go_wp2
         exact⟨_,rfl,rfl,Since.refl _,hph⟩
        ·have z1:w20.cell? ⟨pb,1,none⟩=some (.slice ba bn bc):=(ht.cell HL19.out HNO.out.1).trans HC19.out
         have z2:pb<w20.heap.size:=Nat.lt_of_lt_of_le HL19.out ht.size
         go_wp2
         exact⟨_,rfl,rfl,Since.refl _,hph⟩
        ·go_wp2
         exact⟨_,rfl,rfl,Since.refl _,hph⟩
        ·have hne:¬ (Value.slice ba bn bc).ownBlock=some w20.heap.size:=fun e=>by have:=(World.ownsRow.lt HRW.out _ e).2;have:=ht.size;omega
         have hs2:=(Since.refl w20).alloc (.cells (fbcells fbZero).toArray 57)
         have HP:=Lib.hid (fun (e:p=0)=>(hph e).trans hs2)
         clear hph
         go_wp2
         exact⟨_,rfl,⟨_,rfl,HeapIs.new _ _ _,hne⟩,hs2,HP.out⟩
        ·obtain rfl:p=0:=by omega
         have hs0:=hph rfl
         obtain⟨b1,hbx1,hbx2,hbx3⟩:OneOf fbcells 57 (fun q=>(Value.slice ba bn bc).ownBlock=some q) fbZero (vs 7) w20:=hk.2.1
         simp only[hbx1]
         have hrow:=OwnRow.keep HRW.out hs0
         have HS0:=Lib.hid hs0
         clear hk hph hs0 hbx1
         refine wpList_append_one2 fbcells 6 fbcells_len (by decide) rfl _ _ 22 rfl 57 (.agg #[.slice none 0 0,.slice none 0 0,.int .i64 0,.slice none 0 0,.slice none 0 0,.int .i32 0]) 112 Tryz.underlying22 (by kernel_rfl) rfl (.slice ba bn bc) bl fbZero b1 1 _ rfl rfl hrow hbx2 (by decide) (by rw[HBN.out];unfold maxLen;omega) (by rw[HBN.out];omega) (Nat.zero_le _) ?_
         intro v9 w21 hown ht3 hnew
         have HA:=Lib.hid (show AppOf fbcells 6 57 w19 (.slice ba bn bc) (bl++[fbZero]) v9 w21 from⟨w20,HS0.out,ht3,hnew,hown⟩)
         have HT3:=Lib.hid ht3
         clear hown ht3 hnew hrow hbx2 hbx3
         go_wp2
         exact⟨_,rfl,HA.out,HT3.out,fun e=>absurd e (by decide)⟩
       all_goals
        intro vs w18 hs hk _
        simp only[List.take,putAll,Act.put,Knows,nthF,Is,List.setIfInBounds_toArray,List.set_cons_zero,List.set_cons_succ,Nat.reduceAdd]at hk ⊢
        try simp only[hk]
       ·have z1:w18.cell? ⟨qb,0,none⟩=some (.pointer (some ⟨pb,0,none⟩)):=(hs.cell (p:=⟨qb,0,none⟩) ql17).trans q17
        have z2:qb<w18.heap.size:=Nat.lt_of_lt_of_le ql17 hs.size
        go_wp2
        exact⟨_,rfl,rfl,Since.refl _⟩
       ·go_wp2
        exact⟨_,rfl,rfl,Since.refl _⟩
       ·have z1:w18.cell? ⟨qb,0,none⟩=some (.pointer (some ⟨pb,0,none⟩)):=(hs.cell (p:=⟨qb,0,none⟩) ql17).trans q17
        have z2:qb<w18.heap.size:=Nat.lt_of_lt_of_le ql17 hs.size
        go_wp2
        exact⟨_,rfl,rfl,Since.refl _⟩
       ·go_wp2
        exact⟨_,rfl,rfl,Since.refl _⟩
       ·go_wp2
        exact⟨_,rfl,rfl,Since.refl _⟩
       ·go_wp2
        exact⟨_,rfl,rfl,Since.refl _⟩
       ·have z1:w18.cell? ⟨pb,1,none⟩=some (.slice ba bn bc):=(hs.cell (p:=⟨pb,1,none⟩) HLT.out).trans HC1.out
        have z2:pb<w18.heap.size:=Nat.lt_of_lt_of_le HLT.out hs.size
        go_wp2
        exact⟨_,rfl,rfl,Since.refl _⟩
       ·go_wp2
        exact⟨_,rfl,rfl,Since.refl _⟩
       ·go_wp2
        exact⟨_,rfl,rfl,Since.refl _⟩
      all_goals
       intro vs w16 hs hk _
       simp only[List.take,putAll,Act.put,Knows,nthF,Is,Any,List.setIfInBounds_toArray,List.set_cons_zero,List.set_cons_succ,Nat.reduceAdd]at hk ⊢
       try simp only[hk]
      ·go_wp2
       exact⟨_,rfl,rfl,Since.refl _⟩
      ·go_wp2
       exact⟨_,rfl,rfl,Since.refl _⟩
      ·go_wp2
       exact⟨_,rfl,rfl,Since.refl _⟩
      ·go_wp2
       exact⟨_,(put_old _ 68).symm,trivial,Since.refl _⟩
      ·go_wp2
       exact⟨_,(put_old _ 69).symm,trivial,Since.refl _⟩
      ·go_wp2
       exact⟨_,(put_old _ 70).symm,trivial,Since.refl _⟩
      ·go_wp2
       exact⟨_,(put_old _ 71).symm,trivial,Since.refl _⟩
      ·go_wp2
       exact⟨_,(put_old _ 72).symm,trivial,Since.refl _⟩
      ·go_wp2
       exact⟨_,(put_old _ 73).symm,trivial,Since.refl _⟩
     all_goals
      intro vs w14 hs hk _
      simp only[List.take,putAll,Act.put,Knows,nthF,Is,List.setIfInBounds_toArray,List.set_cons_zero,List.set_cons_succ,Nat.reduceAdd]at hk ⊢
      try simp only[hk]
     ·go_wp2
      exact⟨_,rfl,rfl,Since.refl _⟩
     ·go_wp2
      exact⟨_,rfl,rfl,Since.refl _⟩
     ·have z1:w14.cell? ⟨qb,0,none⟩=some (.pointer (some ⟨pb,0,none⟩)):=(hs.cell (p:=⟨qb,0,none⟩) ql13).trans q13
      have z2:qb<w14.heap.size:=Nat.lt_of_lt_of_le ql13 hs.size
      go_wp2
      exact⟨_,rfl,rfl,Since.refl _⟩
     ·go_wp2
      exact⟨_,rfl,rfl,Since.refl _⟩
     ·have y1:w14.cell? ⟨qb,0,none⟩=some (.pointer (some ⟨pb,0,none⟩)):=(hs.cell (p:=⟨qb,0,none⟩) ql13).trans q13
      have y2:w14.cell? ⟨rb,0,none⟩=some (.slice ra 1 (c-1)):=(hs.cell (p:=⟨rb,0,none⟩) rl13).trans r13
      have y3:w14.cell? ⟨pb,2,none⟩=some (.int .i64 1):=(HP13.out.keep hs).cell 2
      have y4:pb<w14.heap.size:=(HP13.out.keep hs).box.lt
      go_wp2_with fail
      refine (ok2_any w14 y1 y2 y3 (Nat.lt_of_lt_of_le ql13 hs.size) (Nat.lt_of_lt_of_le rl13 hs.size) y4).mono ?_
      rintro e15 w15 ⟨rfl,hw15⟩
      obtain rfl:w14=w15:=hw15.symm
      rw[HOKB.out]
      go_wp2
      exact⟨_,rfl,rfl,Since.refl _⟩
    ·have HOKB:=Lib.hid (show (pl==1&&(n:Int)==1)=false from by simp;omega)
     have HZ:=Lib.hid (show stepSt ⟨params,bl.map FBlk.d,pl⟩ (f::r)=.error 70 from by rw[HSTEP.out,if_neg];rw[HNN.out];exact fun h=>hn1 h.2)
     clear hp0 hn1
     refine wp_region_since_tail 5 rfl (by decide +kernel) (by decide +kernel) (by decide +kernel) (by decide)
      [Is (.bool true),Is (.bool true),Is (.pointer (some ⟨pb,0,none⟩)),Is (.func (.func 72) #[] #[.pointer (some ⟨qb,0,none⟩),.pointer (some ⟨rb,0,none⟩)]),Is (.bool false)]
      (by repeat (first | exact trivial | refine⟨Is.stable _,?_⟩ | refine⟨Any.stable,?_⟩)) ⟨?_,?_,?_,?_,?_,trivial⟩ ?_
     rotate_right
     ·intro vs w14 hs hk
      simp only[List.take,List.drop,putAll,Act.put,KnowsAll,nthF,Is,List.setIfInBounds_toArray,List.set_cons_zero,List.set_cons_succ,Nat.reduceAdd]at hk ⊢
      try simp only[hk]
      have ht14:Turn (fun q=>q=pb) w13 w14:=Turn.since hs
      have q14:w14.cell? ⟨qb,0,none⟩=some (.pointer (some ⟨pb,0,none⟩)):=(ht14.cell (p:=⟨qb,0,none⟩) ql13 hqp).trans q13
      have r14:w14.cell? ⟨rb,0,none⟩=some (.slice ra n (c-1)):=(ht14.cell (p:=⟨rb,0,none⟩) rl13 hrp).trans r13
      have ql14:=Nat.lt_of_lt_of_le ql13 ht14.size
      have rl14:=Nat.lt_of_lt_of_le rl13 ht14.size
      have HP14:=Lib.hid (show TPa w0 pb tv params pl 0 bv bl w14 from HP13.out.keep hs)
      have HT14:=Lib.hid (HT13.out.trans ht14)
      have HR14:=Lib.hid (RowIn.turn HR13.out ht14 (fun q hq hr=>(HRS13.out q hq).1 (.inl hr)) (fun _ _ h=>h):StrsIn w14 (.slice ra n (c-1)) r)
      have HRS14:=Lib.hid (show Stays (PaOwn pb bv bl) w14 (.slice ra n (c-1)) from HRS13.out.mono (fun q hq=>.inl hq) ht14.size)
      clear q13 r13 ql13 rl13
      clear ht14 hs hk
      go_wp2_with fail
      refine (must_any w14 HP14.out false 70 (by decide)).mono ?_
      rintro e15 w15 ⟨rfl,hp,ht⟩
      have HF:=Lib.hid (HE.out 70 w15 HZ.out (by decide) hp (HT14.out.trans ht))
      clear hp ht q14 r14 ql14 rl14
      go_wp2
      go_end0
      exact HF.out
     all_goals
      intro vs w14 hs hk _
      simp only[List.take,putAll,Act.put,Knows,nthF,Is,List.setIfInBounds_toArray,List.set_cons_zero,List.set_cons_succ,Nat.reduceAdd]at hk ⊢
      try simp only[hk]
     ·go_wp2
      exact⟨_,rfl,rfl,Since.refl _⟩
     ·go_wp2
      exact⟨_,rfl,rfl,Since.refl _⟩
     ·have z1:w14.cell? ⟨qb,0,none⟩=some (.pointer (some ⟨pb,0,none⟩)):=(hs.cell (p:=⟨qb,0,none⟩) ql13).trans q13
      have z2:qb<w14.heap.size:=Nat.lt_of_lt_of_le ql13 hs.size
      go_wp2
      exact⟨_,rfl,rfl,Since.refl _⟩
     ·go_wp2
      exact⟨_,rfl,rfl,Since.refl _⟩
     ·have y1:w14.cell? ⟨qb,0,none⟩=some (.pointer (some ⟨pb,0,none⟩)):=(hs.cell (p:=⟨qb,0,none⟩) ql13).trans q13
      have y2:w14.cell? ⟨rb,0,none⟩=some (.slice ra n (c-1)):=(hs.cell (p:=⟨rb,0,none⟩) rl13).trans r13
      have y3:w14.cell? ⟨pb,2,none⟩=some (.int .i64 pl):=(HP13.out.keep hs).cell 2
      have y4:pb<w14.heap.size:=(HP13.out.keep hs).box.lt
      go_wp2_with fail
      refine (ok2_any w14 y1 y2 y3 (Nat.lt_of_lt_of_le ql13 hs.size) (Nat.lt_of_lt_of_le rl13 hs.size) y4).mono ?_
      rintro e15 w15 ⟨rfl,hw15⟩
      obtain rfl:w14=w15:=hw15.symm
      rw[HOKB.out]
      go_wp2
      exact⟨_,rfl,rfl,Since.refl _⟩
   ·have HOKB:=Lib.hid (show (pl==1&&(n:Int)==1)=false from by simp[hp0])
    have HZ:=Lib.hid (show stepSt ⟨params,bl.map FBlk.d,pl⟩ (f::r)=.error 70 from by rw[HSTEP.out,if_neg];exact fun h=>hp0 h.1)
    clear hp0
    refine wp_region_since_tail 5 rfl (by decide +kernel) (by decide +kernel) (by decide +kernel) (by decide)
     [Is (.bool true),Is (.bool true),Is (.pointer (some ⟨pb,0,none⟩)),Is (.func (.func 72) #[] #[.pointer (some ⟨qb,0,none⟩),.pointer (some ⟨rb,0,none⟩)]),Is (.bool false)]
     (by repeat (first | exact trivial | refine⟨Is.stable _,?_⟩ | refine⟨Any.stable,?_⟩)) ⟨?_,?_,?_,?_,?_,trivial⟩ ?_
    rotate_right
    ·intro vs w14 hs hk
     simp only[List.take,List.drop,putAll,Act.put,KnowsAll,nthF,Is,List.setIfInBounds_toArray,List.set_cons_zero,List.set_cons_succ,Nat.reduceAdd]at hk ⊢
     try simp only[hk]
     have ht14:Turn (fun q=>q=pb) w13 w14:=Turn.since hs
     have q14:w14.cell? ⟨qb,0,none⟩=some (.pointer (some ⟨pb,0,none⟩)):=(ht14.cell (p:=⟨qb,0,none⟩) ql13 hqp).trans q13
     have r14:w14.cell? ⟨rb,0,none⟩=some (.slice ra n (c-1)):=(ht14.cell (p:=⟨rb,0,none⟩) rl13 hrp).trans r13
     have ql14:=Nat.lt_of_lt_of_le ql13 ht14.size
     have rl14:=Nat.lt_of_lt_of_le rl13 ht14.size
     have HP14:=Lib.hid (show TPa w0 pb tv params pl 0 bv bl w14 from HP13.out.keep hs)
     have HT14:=Lib.hid (HT13.out.trans ht14)
     have HR14:=Lib.hid (RowIn.turn HR13.out ht14 (fun q hq hr=>(HRS13.out q hq).1 (.inl hr)) (fun _ _ h=>h):StrsIn w14 (.slice ra n (c-1)) r)
     have HRS14:=Lib.hid (show Stays (PaOwn pb bv bl) w14 (.slice ra n (c-1)) from HRS13.out.mono (fun q hq=>.inl hq) ht14.size)
     clear q13 r13 ql13 rl13
     clear ht14 hs hk
     go_wp2_with fail
     refine (must_any w14 HP14.out false 70 (by decide)).mono ?_
     rintro e15 w15 ⟨rfl,hp,ht⟩
     have HF:=Lib.hid (HE.out 70 w15 HZ.out (by decide) hp (HT14.out.trans ht))
     clear hp ht q14 r14 ql14 rl14
     go_wp2
     go_end0
     exact HF.out
    all_goals
     intro vs w14 hs hk _
     simp only[List.take,putAll,Act.put,Knows,nthF,Is,List.setIfInBounds_toArray,List.set_cons_zero,List.set_cons_succ,Nat.reduceAdd]at hk ⊢
     try simp only[hk]
    ·go_wp2
     exact⟨_,rfl,rfl,Since.refl _⟩
    ·go_wp2
     exact⟨_,rfl,rfl,Since.refl _⟩
    ·have z1:w14.cell? ⟨qb,0,none⟩=some (.pointer (some ⟨pb,0,none⟩)):=(hs.cell (p:=⟨qb,0,none⟩) ql13).trans q13
     have z2:qb<w14.heap.size:=Nat.lt_of_lt_of_le ql13 hs.size
     go_wp2
     exact⟨_,rfl,rfl,Since.refl _⟩
    ·go_wp2
     exact⟨_,rfl,rfl,Since.refl _⟩
    ·have y1:w14.cell? ⟨qb,0,none⟩=some (.pointer (some ⟨pb,0,none⟩)):=(hs.cell (p:=⟨qb,0,none⟩) ql13).trans q13
     have y2:w14.cell? ⟨rb,0,none⟩=some (.slice ra n (c-1)):=(hs.cell (p:=⟨rb,0,none⟩) rl13).trans r13
     have y3:w14.cell? ⟨pb,2,none⟩=some (.int .i64 pl):=(HP13.out.keep hs).cell 2
     have y4:pb<w14.heap.size:=(HP13.out.keep hs).box.lt
     go_wp2_with fail
     refine (ok2_any w14 y1 y2 y3 (Nat.lt_of_lt_of_le ql13 hs.size) (Nat.lt_of_lt_of_le rl13 hs.size) y4).mono ?_
     rintro e15 w15 ⟨rfl,hw15⟩
     obtain rfl:w14=w15:=hw15.symm
     rw[HOKB.out]
     go_wp2
     exact⟨_,rfl,rfl,Since.refl _⟩
  ·have q1:(f.toList==[102,117,110,99])=false:=not_func g1
   have q2:(f.toList==[98,108,111,99,107])=false:=not_block g2
   have q3:(f.toList==[112,104,105])=true:=is_phi g3
   have HSTEP:=Lib.hid (show stepSt ⟨params,bl.map FBlk.d,pl⟩ (f::r)=(if pl=2 then phiSt ⟨params,bl.map FBlk.d,pl⟩ r else .error 70) from by
    show (if f=wFunc then _ else if f=wBlock then _ else if f=wPhi then (if pl=2 then phiSt _ r else .error 70) else _)=_
    rw[if_neg g1,if_neg g2,if_pos g3])
   clear g1 g2 g3
   by_cases hp0:pl=2
   ·subst hp0
    have HOKB:=Lib.hid (show ((2:Int)==2)=true from rfl)
    refine wp_region_since_tail 5 rfl (by decide +kernel) (by decide +kernel) (by decide +kernel) (by decide)
     [Is (.bool true),Is (.bool true),Is (.pointer (some ⟨pb,0,none⟩)),Is (.func (.func 73) #[] #[.pointer (some ⟨qb,0,none⟩)]),Is (.bool true)]
     (by repeat (first | exact trivial | refine⟨Is.stable _,?_⟩ | refine⟨Any.stable,?_⟩)) ⟨?_,?_,?_,?_,?_,trivial⟩ ?_
    rotate_right
    ·intro vs w14 hs hk
     simp only[List.take,List.drop,putAll,Act.put,KnowsAll,nthF,Is,List.setIfInBounds_toArray,List.set_cons_zero,List.set_cons_succ,Nat.reduceAdd]at hk ⊢
     try simp only[hk]
     have ht14:Turn (fun q=>q=pb) w13 w14:=Turn.since hs
     have q14:w14.cell? ⟨qb,0,none⟩=some (.pointer (some ⟨pb,0,none⟩)):=(ht14.cell (p:=⟨qb,0,none⟩) ql13 hqp).trans q13
     have r14:w14.cell? ⟨rb,0,none⟩=some (.slice ra n (c-1)):=(ht14.cell (p:=⟨rb,0,none⟩) rl13 hrp).trans r13
     have ql14:=Nat.lt_of_lt_of_le ql13 ht14.size
     have rl14:=Nat.lt_of_lt_of_le rl13 ht14.size
     have HP14:=Lib.hid (show TPa w0 pb tv params 2 0 bv bl w14 from HP13.out.keep hs)
     have HT14:=Lib.hid (HT13.out.trans ht14)
     have HR14:=Lib.hid (RowIn.turn HR13.out ht14 (fun q hq hr=>(HRS13.out q hq).1 (.inl hr)) (fun _ _ h=>h):StrsIn w14 (.slice ra n (c-1)) r)
     have HRS14:=Lib.hid (show Stays (PaOwn pb bv bl) w14 (.slice ra n (c-1)) from HRS13.out.mono (fun q hq=>.inl hq) ht14.size)
     clear q13 r13 ql13 rl13
     clear ht14 hs hk
     go_wp2_with fail
     refine (must_any w14 HP14.out true 70 (by decide)).mono ?_
     rintro e15 w15 ⟨rfl,hp,ht⟩
     have q15:w15.cell? ⟨qb,0,none⟩=some (.pointer (some ⟨pb,0,none⟩)):=(ht.cell (p:=⟨qb,0,none⟩) ql14 hqp).trans q14
     have r15:w15.cell? ⟨rb,0,none⟩=some (.slice ra n (c-1)):=(ht.cell (p:=⟨rb,0,none⟩) rl14 hrp).trans r14
     have ql15:=Nat.lt_of_lt_of_le ql14 ht.size
     have rl15:=Nat.lt_of_lt_of_le rl14 ht.size
     have HP15:=Lib.hid (show TPa w0 pb tv params 2 0 bv bl w15 from hp)
     have HT15:=Lib.hid (HT14.out.trans ht)
     have HR15:=Lib.hid (RowIn.turn HR14.out ht (fun q hq hr=>(HRS14.out q hq).1 (.inl hr)) (fun _ _ h=>h):StrsIn w15 (.slice ra n (c-1)) r)
     have HRS15:=Lib.hid (show Stays (PaOwn pb bv bl) w15 (.slice ra n (c-1)) from HRS14.out.mono (fun q hq=>.inl hq) ht.size)
     clear q14 r14 ql14 rl14
     clear hp ht
     go_wp2_with fail
     refine wp_region_since_tail 9 rfl (by decide +kernel) (by decide +kernel) (by decide +kernel) (by decide)
      [Is (.bool true),Is (.bool false),Is (.bool false),Any,Any,Any,Any,Any,Any]
      (by repeat (first | exact trivial | refine⟨Is.stable _,?_⟩ | refine⟨Any.stable,?_⟩)) ⟨?_,?_,?_,?_,?_,?_,?_,?_,?_,trivial⟩ ?_
     rotate_right
     ·intro vs w16 hs hk
      simp only[List.take,List.drop,putAll,Act.put,KnowsAll,nthF,Is,Any,List.setIfInBounds_toArray,List.set_cons_zero,List.set_cons_succ,Nat.reduceAdd]at hk ⊢
      try simp only[hk]
      have ht16:Turn (fun q=>q=pb) w15 w16:=Turn.since hs
      have q16:w16.cell? ⟨qb,0,none⟩=some (.pointer (some ⟨pb,0,none⟩)):=(ht16.cell (p:=⟨qb,0,none⟩) ql15 hqp).trans q15
      have r16:w16.cell? ⟨rb,0,none⟩=some (.slice ra n (c-1)):=(ht16.cell (p:=⟨rb,0,none⟩) rl15 hrp).trans r15
      have ql16:=Nat.lt_of_lt_of_le ql15 ht16.size
      have rl16:=Nat.lt_of_lt_of_le rl15 ht16.size
      have HP16:=Lib.hid (show TPa w0 pb tv params 2 0 bv bl w16 from HP15.out.keep hs)
      have HT16:=Lib.hid (HT15.out.trans ht16)
      have HR16:=Lib.hid (RowIn.turn HR15.out ht16 (fun q hq hr=>(HRS15.out q hq).1 (.inl hr)) (fun _ _ h=>h):StrsIn w16 (.slice ra n (c-1)) r)
      have HRS16:=Lib.hid (show Stays (PaOwn pb bv bl) w16 (.slice ra n (c-1)) from HRS15.out.mono (fun q hq=>.inl hq) ht16.size)
      clear q15 r15 ql15 rl15
      clear ht16 hs hk
      go_wp2_with fail
      obtain⟨b,hb⟩:∃ b,bl[bl.length-1]? = some b:=⟨_,List.getElem?_eq_getElem (by have:=HPLB.out (by omega);have:0<bl.length:=List.length_pos_iff.2 this;omega)⟩
      have hbs:=HBS.out b hb
      refine (phi_any w16 HP16.out HLT0.out _ r HR16.out HRS16.out (by rw[HNN.out];omega) b hb (by omega) hbs.1).mono ?_
      rintro e5 w5 ⟨rfl,e',bl',hp5,ht5,hans⟩
      have HT5:=Lib.hid ((HT16.out.mono (fun q _ hq=>.inl hq):Turn (PaOwn pb bv bl) w w16).trans ht5)
      have HANS:=Lib.hid hans
      have HP5:=Lib.hid hp5
      clear hp5 ht5 hans hb hbs q16 r16 ql16 rl16
      go_wp2
      go_end0
      refine⟨rfl,params,2,e',bv,bl',HP5.out,HT5.out,?_⟩
      rw[HSTEP.out,if_pos (by trivial)]
      exact st_ans (fun s h=>phiSt_pl h) HANS.out
     all_goals
      intro vs w16 hs hk _
      simp only[List.take,putAll,Act.put,Knows,nthF,Is,Any,List.setIfInBounds_toArray,List.set_cons_zero,List.set_cons_succ,Nat.reduceAdd]at hk ⊢
      try simp only[hk]
     ·go_wp2
      exact⟨_,rfl,rfl,Since.refl _⟩
     ·go_wp2
      exact⟨_,rfl,rfl,Since.refl _⟩
     ·go_wp2
      exact⟨_,rfl,rfl,Since.refl _⟩
     ·go_wp2
      exact⟨_,(put_old _ 68).symm,trivial,Since.refl _⟩
     ·go_wp2
      exact⟨_,(put_old _ 69).symm,trivial,Since.refl _⟩
     ·go_wp2
      exact⟨_,(put_old _ 70).symm,trivial,Since.refl _⟩
     ·go_wp2
      exact⟨_,(put_old _ 71).symm,trivial,Since.refl _⟩
     ·go_wp2
      exact⟨_,(put_old _ 72).symm,trivial,Since.refl _⟩
     ·go_wp2
      exact⟨_,(put_old _ 73).symm,trivial,Since.refl _⟩
    all_goals
     intro vs w14 hs hk _
     simp only[List.take,putAll,Act.put,Knows,nthF,Is,List.setIfInBounds_toArray,List.set_cons_zero,List.set_cons_succ,Nat.reduceAdd]at hk ⊢
     try simp only[hk]
    ·go_wp2
     exact⟨_,rfl,rfl,Since.refl _⟩
    ·go_wp2
     exact⟨_,rfl,rfl,Since.refl _⟩
    ·have z1:w14.cell? ⟨qb,0,none⟩=some (.pointer (some ⟨pb,0,none⟩)):=(hs.cell (p:=⟨qb,0,none⟩) ql13).trans q13
     have z2:qb<w14.heap.size:=Nat.lt_of_lt_of_le ql13 hs.size
     go_wp2
     exact⟨_,rfl,rfl,Since.refl _⟩
    ·go_wp2
     exact⟨_,rfl,rfl,Since.refl _⟩
    ·have y1:w14.cell? ⟨qb,0,none⟩=some (.pointer (some ⟨pb,0,none⟩)):=(hs.cell (p:=⟨qb,0,none⟩) ql13).trans q13
     have y2:w14.cell? ⟨rb,0,none⟩=some (.slice ra n (c-1)):=(hs.cell (p:=⟨rb,0,none⟩) rl13).trans r13
     have y3:w14.cell? ⟨pb,2,none⟩=some (.int .i64 2):=(HP13.out.keep hs).cell 2
     have y4:pb<w14.heap.size:=(HP13.out.keep hs).box.lt
     go_wp2_with fail
     refine (ok3_any w14 y1 y3 (Nat.lt_of_lt_of_le ql13 hs.size) y4).mono ?_
     rintro e15 w15 ⟨rfl,hw15⟩
     obtain rfl:w14=w15:=hw15.symm
     rw[HOKB.out]
     go_wp2
     exact⟨_,rfl,rfl,Since.refl _⟩
   ·have HOKB:=Lib.hid (show (pl==2)=false from by simp[hp0])
    have HZ:=Lib.hid (show stepSt ⟨params,bl.map FBlk.d,pl⟩ (f::r)=.error 70 from by rw[HSTEP.out,if_neg hp0])
    clear hp0
    refine wp_region_since_tail 5 rfl (by decide +kernel) (by decide +kernel) (by decide +kernel) (by decide)
     [Is (.bool true),Is (.bool true),Is (.pointer (some ⟨pb,0,none⟩)),Is (.func (.func 73) #[] #[.pointer (some ⟨qb,0,none⟩)]),Is (.bool false)]
     (by repeat (first | exact trivial | refine⟨Is.stable _,?_⟩ | refine⟨Any.stable,?_⟩)) ⟨?_,?_,?_,?_,?_,trivial⟩ ?_
    rotate_right
    ·intro vs w14 hs hk
     simp only[List.take,List.drop,putAll,Act.put,KnowsAll,nthF,Is,List.setIfInBounds_toArray,List.set_cons_zero,List.set_cons_succ,Nat.reduceAdd]at hk ⊢
     try simp only[hk]
     have ht14:Turn (fun q=>q=pb) w13 w14:=Turn.since hs
     have q14:w14.cell? ⟨qb,0,none⟩=some (.pointer (some ⟨pb,0,none⟩)):=(ht14.cell (p:=⟨qb,0,none⟩) ql13 hqp).trans q13
     have r14:w14.cell? ⟨rb,0,none⟩=some (.slice ra n (c-1)):=(ht14.cell (p:=⟨rb,0,none⟩) rl13 hrp).trans r13
     have ql14:=Nat.lt_of_lt_of_le ql13 ht14.size
     have rl14:=Nat.lt_of_lt_of_le rl13 ht14.size
     have HP14:=Lib.hid (show TPa w0 pb tv params pl 0 bv bl w14 from HP13.out.keep hs)
     have HT14:=Lib.hid (HT13.out.trans ht14)
     have HR14:=Lib.hid (RowIn.turn HR13.out ht14 (fun q hq hr=>(HRS13.out q hq).1 (.inl hr)) (fun _ _ h=>h):StrsIn w14 (.slice ra n (c-1)) r)
     have HRS14:=Lib.hid (show Stays (PaOwn pb bv bl) w14 (.slice ra n (c-1)) from HRS13.out.mono (fun q hq=>.inl hq) ht14.size)
     clear q13 r13 ql13 rl13
     clear ht14 hs hk
     go_wp2_with fail
     refine (must_any w14 HP14.out false 70 (by decide)).mono ?_
     rintro e15 w15 ⟨rfl,hp,ht⟩
     have HF:=Lib.hid (HE.out 70 w15 HZ.out (by decide) hp (HT14.out.trans ht))
     clear hp ht q14 r14 ql14 rl14
     go_wp2
     go_end0
     exact HF.out
    all_goals
     intro vs w14 hs hk _
     simp only[List.take,putAll,Act.put,Knows,nthF,Is,List.setIfInBounds_toArray,List.set_cons_zero,List.set_cons_succ,Nat.reduceAdd]at hk ⊢
     try simp only[hk]
    ·go_wp2
     exact⟨_,rfl,rfl,Since.refl _⟩
    ·go_wp2
     exact⟨_,rfl,rfl,Since.refl _⟩
    ·have z1:w14.cell? ⟨qb,0,none⟩=some (.pointer (some ⟨pb,0,none⟩)):=(hs.cell (p:=⟨qb,0,none⟩) ql13).trans q13
     have z2:qb<w14.heap.size:=Nat.lt_of_lt_of_le ql13 hs.size
     go_wp2
     exact⟨_,rfl,rfl,Since.refl _⟩
    ·go_wp2
     exact⟨_,rfl,rfl,Since.refl _⟩
    ·have y1:w14.cell? ⟨qb,0,none⟩=some (.pointer (some ⟨pb,0,none⟩)):=(hs.cell (p:=⟨qb,0,none⟩) ql13).trans q13
     have y2:w14.cell? ⟨rb,0,none⟩=some (.slice ra n (c-1)):=(hs.cell (p:=⟨rb,0,none⟩) rl13).trans r13
     have y3:w14.cell? ⟨pb,2,none⟩=some (.int .i64 pl):=(HP13.out.keep hs).cell 2
     have y4:pb<w14.heap.size:=(HP13.out.keep hs).box.lt
     go_wp2_with fail
     refine (ok3_any w14 y1 y3 (Nat.lt_of_lt_of_le ql13 hs.size) y4).mono ?_
     rintro e15 w15 ⟨rfl,hw15⟩
     obtain rfl:w14=w15:=hw15.symm
     rw[HOKB.out]
     go_wp2
     exact⟨_,rfl,rfl,Since.refl _⟩
  ·have q1:(f.toList==[102,117,110,99])=false:=not_func g1
   have q2:(f.toList==[98,108,111,99,107])=false:=not_block g2
   have q3:(f.toList==[112,104,105])=false:=not_phi g3
   have HSTEP:=Lib.hid (show stepSt ⟨params,bl.map FBlk.d,pl⟩ (f::r)=(if 0<op then (if 2≤pl then insSt ⟨params,bl.map FBlk.d,pl⟩ op r else .error 70) else if 0<1+id then (if 2≤pl then termSt ⟨params,bl.map FBlk.d,pl⟩ (1+id) r else .error 70) else .error 72) from by
    show (if f=wFunc then _ else if f=wBlock then _ else if f=wPhi then _ else if 0<numberF f then (if 2≤pl then insSt _ (numberF f) r else .error 70) else if 0<kindF f then (if 2≤pl then termSt _ (kindF f) r else .error 70) else .error 72)=_
    rw[if_neg g1,if_neg g2,if_neg g3,HOP.out,HKD.out])
   clear g1 g2 g3
   by_cases ho:0<op
   ·by_cases hp2:2≤pl
    ·refine wp_region_since_tail 5 rfl (by decide +kernel) (by decide +kernel) (by decide +kernel) (by decide)
      [Is (.bool false),Is (.bool false),Any,Any,Any]
      (by repeat (first | exact trivial | refine⟨Is.stable _,?_⟩ | refine⟨Any.stable,?_⟩)) ⟨?_,?_,?_,?_,?_,trivial⟩ ?_
     rotate_right
     ·intro vs w14 hs hk
      simp only[List.take,List.drop,putAll,Act.put,KnowsAll,nthF,Is,Any,List.setIfInBounds_toArray,List.set_cons_zero,List.set_cons_succ,Nat.reduceAdd]at hk ⊢
      try simp only[hk]
      have ht14:Turn (fun q=>q=pb) w13 w14:=Turn.since hs
      have q14:w14.cell? ⟨qb,0,none⟩=some (.pointer (some ⟨pb,0,none⟩)):=(ht14.cell (p:=⟨qb,0,none⟩) ql13 hqp).trans q13
      have r14:w14.cell? ⟨rb,0,none⟩=some (.slice ra n (c-1)):=(ht14.cell (p:=⟨rb,0,none⟩) rl13 hrp).trans r13
      have ql14:=Nat.lt_of_lt_of_le ql13 ht14.size
      have rl14:=Nat.lt_of_lt_of_le rl13 ht14.size
      have HP14:=Lib.hid (show TPa w0 pb tv params pl 0 bv bl w14 from HP13.out.keep hs)
      have HT14:=Lib.hid (HT13.out.trans ht14)
      have HR14:=Lib.hid (RowIn.turn HR13.out ht14 (fun q hq hr=>(HRS13.out q hq).1 (.inl hr)) (fun _ _ h=>h):StrsIn w14 (.slice ra n (c-1)) r)
      have HRS14:=Lib.hid (show Stays (PaOwn pb bv bl) w14 (.slice ra n (c-1)) from HRS13.out.mono (fun q hq=>.inl hq) ht14.size)
      clear q13 r13 ql13 rl13
      clear ht14 hs hk
      go_wp2_with fail
      refine (must_any w14 HP14.out true 72 (by decide)).mono ?_
      rintro e15 w15 ⟨rfl,hp,ht⟩
      have q15:w15.cell? ⟨qb,0,none⟩=some (.pointer (some ⟨pb,0,none⟩)):=(ht.cell (p:=⟨qb,0,none⟩) ql14 hqp).trans q14
      have r15:w15.cell? ⟨rb,0,none⟩=some (.slice ra n (c-1)):=(ht.cell (p:=⟨rb,0,none⟩) rl14 hrp).trans r14
      have ql15:=Nat.lt_of_lt_of_le ql14 ht.size
      have rl15:=Nat.lt_of_lt_of_le rl14 ht.size
      have HP15:=Lib.hid (show TPa w0 pb tv params pl 0 bv bl w15 from hp)
      have HT15:=Lib.hid (HT14.out.trans ht)
      have HR15:=Lib.hid (RowIn.turn HR14.out ht (fun q hq hr=>(HRS14.out q hq).1 (.inl hr)) (fun _ _ h=>h):StrsIn w15 (.slice ra n (c-1)) r)
      have HRS15:=Lib.hid (show Stays (PaOwn pb bv bl) w15 (.slice ra n (c-1)) from HRS14.out.mono (fun q hq=>.inl hq) ht.size)
      clear q14 r14 ql14 rl14
      clear hp ht
      go_wp2_with fail
      refine wp_region_since_tail 9 rfl (by decide +kernel) (by decide +kernel) (by decide +kernel) (by decide)
       [Is (.bool false),Is (.bool true),Is (.bool true),Is (.pointer (some ⟨pb,0,none⟩)),Is (.pointer (some ⟨pb,0,none⟩)),Is (.pointer (some ⟨pb,0,none⟩)),Is (.pointer (some ⟨pb,2,none⟩)),Is (.int .i64 pl),Is (.bool true)]
       (by repeat (first | exact trivial | refine⟨Is.stable _,?_⟩ | refine⟨Any.stable,?_⟩)) ⟨?_,?_,?_,?_,?_,?_,?_,?_,?_,trivial⟩ ?_
      rotate_right
      ·intro vs w16 hs hk
       simp only[List.take,List.drop,putAll,Act.put,KnowsAll,nthF,Is,List.setIfInBounds_toArray,List.set_cons_zero,List.set_cons_succ,Nat.reduceAdd]at hk ⊢
       try simp only[hk]
       have ht16:Turn (fun q=>q=pb) w15 w16:=Turn.since hs
       have q16:w16.cell? ⟨qb,0,none⟩=some (.pointer (some ⟨pb,0,none⟩)):=(ht16.cell (p:=⟨qb,0,none⟩) ql15 hqp).trans q15
       have r16:w16.cell? ⟨rb,0,none⟩=some (.slice ra n (c-1)):=(ht16.cell (p:=⟨rb,0,none⟩) rl15 hrp).trans r15
       have ql16:=Nat.lt_of_lt_of_le ql15 ht16.size
       have rl16:=Nat.lt_of_lt_of_le rl15 ht16.size
       have HP16:=Lib.hid (show TPa w0 pb tv params pl 0 bv bl w16 from HP15.out.keep hs)
       have HT16:=Lib.hid (HT15.out.trans ht16)
       have HR16:=Lib.hid (RowIn.turn HR15.out ht16 (fun q hq hr=>(HRS15.out q hq).1 (.inl hr)) (fun _ _ h=>h):StrsIn w16 (.slice ra n (c-1)) r)
       have HRS16:=Lib.hid (show Stays (PaOwn pb bv bl) w16 (.slice ra n (c-1)) from HRS15.out.mono (fun q hq=>.inl hq) ht16.size)
       clear q15 r15 ql15 rl15
       clear ht16 hs hk
       go_wp2_with fail
       refine (must_any w16 HP16.out true 70 (by decide)).mono ?_
       rintro e15 w17 ⟨rfl,hp,ht⟩
       have q17:w17.cell? ⟨qb,0,none⟩=some (.pointer (some ⟨pb,0,none⟩)):=(ht.cell (p:=⟨qb,0,none⟩) ql16 hqp).trans q16
       have r17:w17.cell? ⟨rb,0,none⟩=some (.slice ra n (c-1)):=(ht.cell (p:=⟨rb,0,none⟩) rl16 hrp).trans r16
       have ql17:=Nat.lt_of_lt_of_le ql16 ht.size
       have rl17:=Nat.lt_of_lt_of_le rl16 ht.size
       have HP17:=Lib.hid (show TPa w0 pb tv params pl 0 bv bl w17 from hp)
       have HT17:=Lib.hid (HT16.out.trans ht)
       have HR17:=Lib.hid (RowIn.turn HR16.out ht (fun q hq hr=>(HRS16.out q hq).1 (.inl hr)) (fun _ _ h=>h):StrsIn w17 (.slice ra n (c-1)) r)
       have HRS17:=Lib.hid (show Stays (PaOwn pb bv bl) w17 (.slice ra n (c-1)) from HRS16.out.mono (fun q hq=>.inl hq) ht.size)
       clear q16 r16 ql16 rl16
       clear hp ht
       go_wp2_with fail
       go_wp2_with fail
       obtain⟨b,hb⟩:∃ b,bl[bl.length-1]? = some b:=⟨_,List.getElem?_eq_getElem (by have:=HPLB.out (by omega);have:0<bl.length:=List.length_pos_iff.2 this;omega)⟩
       have hbs:=HBS.out b hb
       refine (ins_raw w17 HP17.out HLT0.out op (by omega) _ r HR17.out HRS17.out (by rw[HNN.out];omega) b hb (by omega) hbs.2).mono ?_
       rintro e5 w5 ⟨rfl,e',bl',hp5,ht5,hans⟩
       have HT5:=Lib.hid ((HT17.out.mono (fun q _ hq=>.inl hq):Turn (PaOwn pb bv bl) w w17).trans ht5)
       have HANS:=Lib.hid hans
       have HP5:=Lib.hid (hp5.put 2 (.int .i64 3) (params':=params) (pl':=3) (e':=e') (tl':=[tv]) rfl)
       have k2:w5.cell? ⟨pb,2,none⟩=some (.int .i64 _):=hp5.cell 2
       have kl5:=hp5.box.lt
       have kf5:=hp5.box.frozen
       have q5:w5.cell? ⟨qb,0,none⟩=some (.pointer (some ⟨pb,0,none⟩)):=(ht5.cell (p:=⟨qb,0,none⟩) ql17 (fun h=>by have:=HAP.out qb h;omega)).trans q17
       have ql5:=Nat.lt_of_lt_of_le ql17 ht5.size
       clear hp5 ht5 hans hb hbs q17 r17 ql17 rl17
       go_wp2
       go_end0
       refine⟨rfl,params,3,e',bv,bl',HP5.out,HT5.out.setCell (.inl rfl) _,?_⟩
       rw[HSTEP.out,if_pos (by omega:0<op),if_pos hp2]
       exact st_ans (fun s h=>insSt_pl h) HANS.out
      all_goals
       intro vs w16 hs hk _
       simp only[List.take,putAll,Act.put,Knows,nthF,Is,List.setIfInBounds_toArray,List.set_cons_zero,List.set_cons_succ,Nat.reduceAdd]at hk ⊢
       try simp only[hk]
      ·go_wp2
       exact⟨_,rfl,rfl,Since.refl _⟩
      ·go_wp2
       exact⟨_,rfl,rfl,Since.refl _⟩
      ·go_wp2
       exact⟨_,rfl,rfl,Since.refl _⟩
      ·have z1:w16.cell? ⟨qb,0,none⟩=some (.pointer (some ⟨pb,0,none⟩)):=(hs.cell (p:=⟨qb,0,none⟩) ql15).trans q15
       have z2:qb<w16.heap.size:=Nat.lt_of_lt_of_le ql15 hs.size
       go_wp2
       exact⟨_,rfl,rfl,Since.refl _⟩
      ·have z1:w16.cell? ⟨qb,0,none⟩=some (.pointer (some ⟨pb,0,none⟩)):=(hs.cell (p:=⟨qb,0,none⟩) ql15).trans q15
       have z2:qb<w16.heap.size:=Nat.lt_of_lt_of_le ql15 hs.size
       go_wp2
       exact⟨_,rfl,rfl,Since.refl _⟩
      ·go_wp2
       exact⟨_,rfl,rfl,Since.refl _⟩
      ·go_wp2
       exact⟨_,rfl,rfl,Since.refl _⟩
      ·have z1:w16.cell? ⟨pb,2,none⟩=some (.int .i64 pl):=(HP15.out.keep hs).cell 2
       have z2:pb<w16.heap.size:=(HP15.out.keep hs).box.lt
       go_wp2
       exact⟨_,rfl,rfl,Since.refl _⟩
      ·go_wp2
       exact⟨_,rfl,rfl,Since.refl _⟩
     all_goals
      intro vs w14 hs hk _
      simp only[List.take,putAll,Act.put,Knows,nthF,Is,Any,List.setIfInBounds_toArray,List.set_cons_zero,List.set_cons_succ,Nat.reduceAdd]at hk ⊢
      try simp only[hk]
     ·go_wp2
      exact⟨_,rfl,rfl,Since.refl _⟩
     ·go_wp2
      exact⟨_,rfl,rfl,Since.refl _⟩
     ·go_wp2
      exact⟨_,(put_old _ 44).symm,trivial,Since.refl _⟩
     ·go_wp2
      exact⟨_,(put_old _ 45).symm,trivial,Since.refl _⟩
     ·go_wp2
      exact⟨_,(put_old _ 46).symm,trivial,Since.refl _⟩
    ·have HZ:=Lib.hid (show stepSt ⟨params,bl.map FBlk.d,pl⟩ (f::r)=.error 70 from by rw[HSTEP.out,if_pos ho,if_neg hp2])
     refine wp_region_since_tail 5 rfl (by decide +kernel) (by decide +kernel) (by decide +kernel) (by decide)
      [Is (.bool false),Is (.bool false),Any,Any,Any]
      (by repeat (first | exact trivial | refine⟨Is.stable _,?_⟩ | refine⟨Any.stable,?_⟩)) ⟨?_,?_,?_,?_,?_,trivial⟩ ?_
     rotate_right
     ·intro vs w14 hs hk
      simp only[List.take,List.drop,putAll,Act.put,KnowsAll,nthF,Is,Any,List.setIfInBounds_toArray,List.set_cons_zero,List.set_cons_succ,Nat.reduceAdd]at hk ⊢
      try simp only[hk]
      have ht14:Turn (fun q=>q=pb) w13 w14:=Turn.since hs
      have q14:w14.cell? ⟨qb,0,none⟩=some (.pointer (some ⟨pb,0,none⟩)):=(ht14.cell (p:=⟨qb,0,none⟩) ql13 hqp).trans q13
      have r14:w14.cell? ⟨rb,0,none⟩=some (.slice ra n (c-1)):=(ht14.cell (p:=⟨rb,0,none⟩) rl13 hrp).trans r13
      have ql14:=Nat.lt_of_lt_of_le ql13 ht14.size
      have rl14:=Nat.lt_of_lt_of_le rl13 ht14.size
      have HP14:=Lib.hid (show TPa w0 pb tv params pl 0 bv bl w14 from HP13.out.keep hs)
      have HT14:=Lib.hid (HT13.out.trans ht14)
      have HR14:=Lib.hid (RowIn.turn HR13.out ht14 (fun q hq hr=>(HRS13.out q hq).1 (.inl hr)) (fun _ _ h=>h):StrsIn w14 (.slice ra n (c-1)) r)
      have HRS14:=Lib.hid (show Stays (PaOwn pb bv bl) w14 (.slice ra n (c-1)) from HRS13.out.mono (fun q hq=>.inl hq) ht14.size)
      clear q13 r13 ql13 rl13
      clear ht14 hs hk
      go_wp2_with fail
      refine (must_any w14 HP14.out true 72 (by decide)).mono ?_
      rintro e15 w15 ⟨rfl,hp,ht⟩
      have q15:w15.cell? ⟨qb,0,none⟩=some (.pointer (some ⟨pb,0,none⟩)):=(ht.cell (p:=⟨qb,0,none⟩) ql14 hqp).trans q14
      have r15:w15.cell? ⟨rb,0,none⟩=some (.slice ra n (c-1)):=(ht.cell (p:=⟨rb,0,none⟩) rl14 hrp).trans r14
      have ql15:=Nat.lt_of_lt_of_le ql14 ht.size
      have rl15:=Nat.lt_of_lt_of_le rl14 ht.size
      have HP15:=Lib.hid (show TPa w0 pb tv params pl 0 bv bl w15 from hp)
      have HT15:=Lib.hid (HT14.out.trans ht)
      have HR15:=Lib.hid (RowIn.turn HR14.out ht (fun q hq hr=>(HRS14.out q hq).1 (.inl hr)) (fun _ _ h=>h):StrsIn w15 (.slice ra n (c-1)) r)
      have HRS15:=Lib.hid (show Stays (PaOwn pb bv bl) w15 (.slice ra n (c-1)) from HRS14.out.mono (fun q hq=>.inl hq) ht.size)
      clear q14 r14 ql14 rl14
      clear hp ht
      go_wp2_with fail
      refine wp_region_since_tail 9 rfl (by decide +kernel) (by decide +kernel) (by decide +kernel) (by decide)
       [Is (.bool false),Is (.bool true),Is (.bool true),Is (.pointer (some ⟨pb,0,none⟩)),Is (.pointer (some ⟨pb,0,none⟩)),Is (.pointer (some ⟨pb,0,none⟩)),Is (.pointer (some ⟨pb,2,none⟩)),Is (.int .i64 pl),Is (.bool false)]
       (by repeat (first | exact trivial | refine⟨Is.stable _,?_⟩ | refine⟨Any.stable,?_⟩)) ⟨?_,?_,?_,?_,?_,?_,?_,?_,?_,trivial⟩ ?_
      rotate_right
      ·intro vs w16 hs hk
       simp only[List.take,List.drop,putAll,Act.put,KnowsAll,nthF,Is,List.setIfInBounds_toArray,List.set_cons_zero,List.set_cons_succ,Nat.reduceAdd]at hk ⊢
       try simp only[hk]
       have ht16:Turn (fun q=>q=pb) w15 w16:=Turn.since hs
       have q16:w16.cell? ⟨qb,0,none⟩=some (.pointer (some ⟨pb,0,none⟩)):=(ht16.cell (p:=⟨qb,0,none⟩) ql15 hqp).trans q15
       have r16:w16.cell? ⟨rb,0,none⟩=some (.slice ra n (c-1)):=(ht16.cell (p:=⟨rb,0,none⟩) rl15 hrp).trans r15
       have ql16:=Nat.lt_of_lt_of_le ql15 ht16.size
       have rl16:=Nat.lt_of_lt_of_le rl15 ht16.size
       have HP16:=Lib.hid (show TPa w0 pb tv params pl 0 bv bl w16 from HP15.out.keep hs)
       have HT16:=Lib.hid (HT15.out.trans ht16)
       have HR16:=Lib.hid (RowIn.turn HR15.out ht16 (fun q hq hr=>(HRS15.out q hq).1 (.inl hr)) (fun _ _ h=>h):StrsIn w16 (.slice ra n (c-1)) r)
       have HRS16:=Lib.hid (show Stays (PaOwn pb bv bl) w16 (.slice ra n (c-1)) from HRS15.out.mono (fun q hq=>.inl hq) ht16.size)
       clear q15 r15 ql15 rl15
       clear ht16 hs hk
       go_wp2_with fail
       refine (must_any w16 HP16.out false 70 (by decide)).mono ?_
       rintro e15 w15 ⟨rfl,hp,ht⟩
       have HF:=Lib.hid (HE.out 70 w15 HZ.out (by decide) hp (HT16.out.trans ht))
       clear hp ht q16 r16 ql16 rl16
       go_wp2
       go_end0
       exact HF.out
      all_goals
       intro vs w16 hs hk _
       simp only[List.take,putAll,Act.put,Knows,nthF,Is,List.setIfInBounds_toArray,List.set_cons_zero,List.set_cons_succ,Nat.reduceAdd]at hk ⊢
       try simp only[hk]
      ·go_wp2
       exact⟨_,rfl,rfl,Since.refl _⟩
      ·go_wp2
       exact⟨_,rfl,rfl,Since.refl _⟩
      ·go_wp2
       exact⟨_,rfl,rfl,Since.refl _⟩
      ·have z1:w16.cell? ⟨qb,0,none⟩=some (.pointer (some ⟨pb,0,none⟩)):=(hs.cell (p:=⟨qb,0,none⟩) ql15).trans q15
       have z2:qb<w16.heap.size:=Nat.lt_of_lt_of_le ql15 hs.size
       go_wp2
       exact⟨_,rfl,rfl,Since.refl _⟩
      ·have z1:w16.cell? ⟨qb,0,none⟩=some (.pointer (some ⟨pb,0,none⟩)):=(hs.cell (p:=⟨qb,0,none⟩) ql15).trans q15
       have z2:qb<w16.heap.size:=Nat.lt_of_lt_of_le ql15 hs.size
       go_wp2
       exact⟨_,rfl,rfl,Since.refl _⟩
      ·go_wp2
       exact⟨_,rfl,rfl,Since.refl _⟩
      ·go_wp2
       exact⟨_,rfl,rfl,Since.refl _⟩
      ·have z1:w16.cell? ⟨pb,2,none⟩=some (.int .i64 pl):=(HP15.out.keep hs).cell 2
       have z2:pb<w16.heap.size:=(HP15.out.keep hs).box.lt
       go_wp2
       exact⟨_,rfl,rfl,Since.refl _⟩
      ·go_wp2
       exact⟨_,rfl,congrArg Value.bool (decide_eq_false (by omega)),Since.refl _⟩
     all_goals
      intro vs w14 hs hk _
      simp only[List.take,putAll,Act.put,Knows,nthF,Is,Any,List.setIfInBounds_toArray,List.set_cons_zero,List.set_cons_succ,Nat.reduceAdd]at hk ⊢
      try simp only[hk]
     ·go_wp2
      exact⟨_,rfl,rfl,Since.refl _⟩
     ·go_wp2
      exact⟨_,rfl,rfl,Since.refl _⟩
     ·go_wp2
      exact⟨_,(put_old _ 44).symm,trivial,Since.refl _⟩
     ·go_wp2
      exact⟨_,(put_old _ 45).symm,trivial,Since.refl _⟩
     ·go_wp2
      exact⟨_,(put_old _ 46).symm,trivial,Since.refl _⟩
   ·by_cases hk:0<1+id
    ·by_cases hp2:2≤pl
     ·refine wp_region_since_tail 5 rfl (by decide +kernel) (by decide +kernel) (by decide +kernel) (by decide)
       [Is (.bool false),Is (.bool false),Any,Any,Any]
       (by repeat (first | exact trivial | refine⟨Is.stable _,?_⟩ | refine⟨Any.stable,?_⟩)) ⟨?_,?_,?_,?_,?_,trivial⟩ ?_
      rotate_right
      ·intro vs w14 hs hk
       simp only[List.take,List.drop,putAll,Act.put,KnowsAll,nthF,Is,Any,List.setIfInBounds_toArray,List.set_cons_zero,List.set_cons_succ,Nat.reduceAdd]at hk ⊢
       try simp only[hk]
       have ht14:Turn (fun q=>q=pb) w13 w14:=Turn.since hs
       have q14:w14.cell? ⟨qb,0,none⟩=some (.pointer (some ⟨pb,0,none⟩)):=(ht14.cell (p:=⟨qb,0,none⟩) ql13 hqp).trans q13
       have r14:w14.cell? ⟨rb,0,none⟩=some (.slice ra n (c-1)):=(ht14.cell (p:=⟨rb,0,none⟩) rl13 hrp).trans r13
       have ql14:=Nat.lt_of_lt_of_le ql13 ht14.size
       have rl14:=Nat.lt_of_lt_of_le rl13 ht14.size
       have HP14:=Lib.hid (show TPa w0 pb tv params pl 0 bv bl w14 from HP13.out.keep hs)
       have HT14:=Lib.hid (HT13.out.trans ht14)
       have HR14:=Lib.hid (RowIn.turn HR13.out ht14 (fun q hq hr=>(HRS13.out q hq).1 (.inl hr)) (fun _ _ h=>h):StrsIn w14 (.slice ra n (c-1)) r)
       have HRS14:=Lib.hid (show Stays (PaOwn pb bv bl) w14 (.slice ra n (c-1)) from HRS13.out.mono (fun q hq=>.inl hq) ht14.size)
       clear q13 r13 ql13 rl13
       clear ht14 hs hk
       go_wp2_with fail
       refine (must_any w14 HP14.out true 72 (by decide)).mono ?_
       rintro e15 w15 ⟨rfl,hp,ht⟩
       have q15:w15.cell? ⟨qb,0,none⟩=some (.pointer (some ⟨pb,0,none⟩)):=(ht.cell (p:=⟨qb,0,none⟩) ql14 hqp).trans q14
       have r15:w15.cell? ⟨rb,0,none⟩=some (.slice ra n (c-1)):=(ht.cell (p:=⟨rb,0,none⟩) rl14 hrp).trans r14
       have ql15:=Nat.lt_of_lt_of_le ql14 ht.size
       have rl15:=Nat.lt_of_lt_of_le rl14 ht.size
       have HP15:=Lib.hid (show TPa w0 pb tv params pl 0 bv bl w15 from hp)
       have HT15:=Lib.hid (HT14.out.trans ht)
       have HR15:=Lib.hid (RowIn.turn HR14.out ht (fun q hq hr=>(HRS14.out q hq).1 (.inl hr)) (fun _ _ h=>h):StrsIn w15 (.slice ra n (c-1)) r)
       have HRS15:=Lib.hid (show Stays (PaOwn pb bv bl) w15 (.slice ra n (c-1)) from HRS14.out.mono (fun q hq=>.inl hq) ht.size)
       clear q14 r14 ql14 rl14
       clear hp ht
       go_wp2_with fail
       refine wp_region_since_tail 9 rfl (by decide +kernel) (by decide +kernel) (by decide +kernel) (by decide)
        [Is (.bool false),Is (.bool true),Is (.bool true),Is (.pointer (some ⟨pb,0,none⟩)),Is (.pointer (some ⟨pb,0,none⟩)),Is (.pointer (some ⟨pb,0,none⟩)),Is (.pointer (some ⟨pb,2,none⟩)),Is (.int .i64 pl),Is (.bool true)]
        (by repeat (first | exact trivial | refine⟨Is.stable _,?_⟩ | refine⟨Any.stable,?_⟩)) ⟨?_,?_,?_,?_,?_,?_,?_,?_,?_,trivial⟩ ?_
       rotate_right
       ·intro vs w16 hs hk
        simp only[List.take,List.drop,putAll,Act.put,KnowsAll,nthF,Is,List.setIfInBounds_toArray,List.set_cons_zero,List.set_cons_succ,Nat.reduceAdd]at hk ⊢
        try simp only[hk]
        have ht16:Turn (fun q=>q=pb) w15 w16:=Turn.since hs
        have q16:w16.cell? ⟨qb,0,none⟩=some (.pointer (some ⟨pb,0,none⟩)):=(ht16.cell (p:=⟨qb,0,none⟩) ql15 hqp).trans q15
        have r16:w16.cell? ⟨rb,0,none⟩=some (.slice ra n (c-1)):=(ht16.cell (p:=⟨rb,0,none⟩) rl15 hrp).trans r15
        have ql16:=Nat.lt_of_lt_of_le ql15 ht16.size
        have rl16:=Nat.lt_of_lt_of_le rl15 ht16.size
        have HP16:=Lib.hid (show TPa w0 pb tv params pl 0 bv bl w16 from HP15.out.keep hs)
        have HT16:=Lib.hid (HT15.out.trans ht16)
        have HR16:=Lib.hid (RowIn.turn HR15.out ht16 (fun q hq hr=>(HRS15.out q hq).1 (.inl hr)) (fun _ _ h=>h):StrsIn w16 (.slice ra n (c-1)) r)
        have HRS16:=Lib.hid (show Stays (PaOwn pb bv bl) w16 (.slice ra n (c-1)) from HRS15.out.mono (fun q hq=>.inl hq) ht16.size)
        clear q15 r15 ql15 rl15
        clear ht16 hs hk
        go_wp2_with fail
        refine (must_any w16 HP16.out true 70 (by decide)).mono ?_
        rintro e15 w17 ⟨rfl,hp,ht⟩
        have q17:w17.cell? ⟨qb,0,none⟩=some (.pointer (some ⟨pb,0,none⟩)):=(ht.cell (p:=⟨qb,0,none⟩) ql16 hqp).trans q16
        have r17:w17.cell? ⟨rb,0,none⟩=some (.slice ra n (c-1)):=(ht.cell (p:=⟨rb,0,none⟩) rl16 hrp).trans r16
        have ql17:=Nat.lt_of_lt_of_le ql16 ht.size
        have rl17:=Nat.lt_of_lt_of_le rl16 ht.size
        have HP17:=Lib.hid (show TPa w0 pb tv params pl 0 bv bl w17 from hp)
        have HT17:=Lib.hid (HT16.out.trans ht)
        have HR17:=Lib.hid (RowIn.turn HR16.out ht (fun q hq hr=>(HRS16.out q hq).1 (.inl hr)) (fun _ _ h=>h):StrsIn w17 (.slice ra n (c-1)) r)
        have HRS17:=Lib.hid (show Stays (PaOwn pb bv bl) w17 (.slice ra n (c-1)) from HRS16.out.mono (fun q hq=>.inl hq) ht.size)
        clear q16 r16 ql16 rl16
        clear hp ht
        go_wp2_with fail
        go_wp2_with fail
        obtain⟨b,hb⟩:∃ b,bl[bl.length-1]? = some b:=⟨_,List.getElem?_eq_getElem (by have:=HPLB.out (by omega);have:0<bl.length:=List.length_pos_iff.2 this;omega)⟩
        have hbs:=HBS.out b hb
        refine (term_raw w17 HP17.out HLT0.out (1+id) (by omega) _ r HR17.out HRS17.out (by rw[HNN.out];omega) b hb (by omega)).mono ?_
        rintro e5 w5 ⟨rfl,e',bl',hp5,ht5,hans⟩
        have HT5:=Lib.hid ((HT17.out.mono (fun q _ hq=>.inl hq):Turn (PaOwn pb bv bl) w w17).trans ht5)
        have HANS:=Lib.hid hans
        have HP5:=Lib.hid (hp5.put 2 (.int .i64 1) (params':=params) (pl':=1) (e':=e') (tl':=[tv]) rfl)
        have k2:w5.cell? ⟨pb,2,none⟩=some (.int .i64 _):=hp5.cell 2
        have kl5:=hp5.box.lt
        have kf5:=hp5.box.frozen
        have q5:w5.cell? ⟨qb,0,none⟩=some (.pointer (some ⟨pb,0,none⟩)):=(ht5.cell (p:=⟨qb,0,none⟩) ql17 (fun h=>by have:=HAP.out qb h;omega)).trans q17
        have ql5:=Nat.lt_of_lt_of_le ql17 ht5.size
        clear hp5 ht5 hans hb hbs q17 r17 ql17 rl17
        go_wp2
        go_end0
        refine⟨rfl,params,1,e',bv,bl',HP5.out,HT5.out.setCell (.inl rfl) _,?_⟩
        rw[HSTEP.out,if_neg (by omega:¬ 0<op),if_pos (by omega:0<1+id),if_pos hp2]
        exact st_ans (fun s h=>termSt_pl h) HANS.out
       all_goals
        intro vs w16 hs hk _
        simp only[List.take,putAll,Act.put,Knows,nthF,Is,List.setIfInBounds_toArray,List.set_cons_zero,List.set_cons_succ,Nat.reduceAdd]at hk ⊢
        try simp only[hk]
       ·go_wp2
        exact⟨_,rfl,rfl,Since.refl _⟩
       ·go_wp2
        exact⟨_,rfl,rfl,Since.refl _⟩
       ·go_wp2
        exact⟨_,rfl,rfl,Since.refl _⟩
       ·have z1:w16.cell? ⟨qb,0,none⟩=some (.pointer (some ⟨pb,0,none⟩)):=(hs.cell (p:=⟨qb,0,none⟩) ql15).trans q15
        have z2:qb<w16.heap.size:=Nat.lt_of_lt_of_le ql15 hs.size
        go_wp2
        exact⟨_,rfl,rfl,Since.refl _⟩
       ·have z1:w16.cell? ⟨qb,0,none⟩=some (.pointer (some ⟨pb,0,none⟩)):=(hs.cell (p:=⟨qb,0,none⟩) ql15).trans q15
        have z2:qb<w16.heap.size:=Nat.lt_of_lt_of_le ql15 hs.size
        go_wp2
        exact⟨_,rfl,rfl,Since.refl _⟩
       ·go_wp2
        exact⟨_,rfl,rfl,Since.refl _⟩
       ·go_wp2
        exact⟨_,rfl,rfl,Since.refl _⟩
       ·have z1:w16.cell? ⟨pb,2,none⟩=some (.int .i64 pl):=(HP15.out.keep hs).cell 2
        have z2:pb<w16.heap.size:=(HP15.out.keep hs).box.lt
        go_wp2
        exact⟨_,rfl,rfl,Since.refl _⟩
       ·go_wp2
        exact⟨_,rfl,rfl,Since.refl _⟩
      all_goals
       intro vs w14 hs hk _
       simp only[List.take,putAll,Act.put,Knows,nthF,Is,Any,List.setIfInBounds_toArray,List.set_cons_zero,List.set_cons_succ,Nat.reduceAdd]at hk ⊢
       try simp only[hk]
      ·go_wp2
       exact⟨_,rfl,rfl,Since.refl _⟩
      ·go_wp2
       exact⟨_,rfl,rfl,Since.refl _⟩
      ·go_wp2
       exact⟨_,(put_old _ 44).symm,trivial,Since.refl _⟩
      ·go_wp2
       exact⟨_,(put_old _ 45).symm,trivial,Since.refl _⟩
      ·go_wp2
       exact⟨_,(put_old _ 46).symm,trivial,Since.refl _⟩
     ·have HZ:=Lib.hid (show stepSt ⟨params,bl.map FBlk.d,pl⟩ (f::r)=.error 70 from by rw[HSTEP.out,if_neg ho,if_pos hk,if_neg hp2])
      refine wp_region_since_tail 5 rfl (by decide +kernel) (by decide +kernel) (by decide +kernel) (by decide)
       [Is (.bool false),Is (.bool false),Any,Any,Any]
       (by repeat (first | exact trivial | refine⟨Is.stable _,?_⟩ | refine⟨Any.stable,?_⟩)) ⟨?_,?_,?_,?_,?_,trivial⟩ ?_
      rotate_right
      ·intro vs w14 hs hk
       simp only[List.take,List.drop,putAll,Act.put,KnowsAll,nthF,Is,Any,List.setIfInBounds_toArray,List.set_cons_zero,List.set_cons_succ,Nat.reduceAdd]at hk ⊢
       try simp only[hk]
       have ht14:Turn (fun q=>q=pb) w13 w14:=Turn.since hs
       have q14:w14.cell? ⟨qb,0,none⟩=some (.pointer (some ⟨pb,0,none⟩)):=(ht14.cell (p:=⟨qb,0,none⟩) ql13 hqp).trans q13
       have r14:w14.cell? ⟨rb,0,none⟩=some (.slice ra n (c-1)):=(ht14.cell (p:=⟨rb,0,none⟩) rl13 hrp).trans r13
       have ql14:=Nat.lt_of_lt_of_le ql13 ht14.size
       have rl14:=Nat.lt_of_lt_of_le rl13 ht14.size
       have HP14:=Lib.hid (show TPa w0 pb tv params pl 0 bv bl w14 from HP13.out.keep hs)
       have HT14:=Lib.hid (HT13.out.trans ht14)
       have HR14:=Lib.hid (RowIn.turn HR13.out ht14 (fun q hq hr=>(HRS13.out q hq).1 (.inl hr)) (fun _ _ h=>h):StrsIn w14 (.slice ra n (c-1)) r)
       have HRS14:=Lib.hid (show Stays (PaOwn pb bv bl) w14 (.slice ra n (c-1)) from HRS13.out.mono (fun q hq=>.inl hq) ht14.size)
       clear q13 r13 ql13 rl13
       clear ht14 hs hk
       go_wp2_with fail
       refine (must_any w14 HP14.out true 72 (by decide)).mono ?_
       rintro e15 w15 ⟨rfl,hp,ht⟩
       have q15:w15.cell? ⟨qb,0,none⟩=some (.pointer (some ⟨pb,0,none⟩)):=(ht.cell (p:=⟨qb,0,none⟩) ql14 hqp).trans q14
       have r15:w15.cell? ⟨rb,0,none⟩=some (.slice ra n (c-1)):=(ht.cell (p:=⟨rb,0,none⟩) rl14 hrp).trans r14
       have ql15:=Nat.lt_of_lt_of_le ql14 ht.size
       have rl15:=Nat.lt_of_lt_of_le rl14 ht.size
       have HP15:=Lib.hid (show TPa w0 pb tv params pl 0 bv bl w15 from hp)
       have HT15:=Lib.hid (HT14.out.trans ht)
       have HR15:=Lib.hid (RowIn.turn HR14.out ht (fun q hq hr=>(HRS14.out q hq).1 (.inl hr)) (fun _ _ h=>h):StrsIn w15 (.slice ra n (c-1)) r)
       have HRS15:=Lib.hid (show Stays (PaOwn pb bv bl) w15 (.slice ra n (c-1)) from HRS14.out.mono (fun q hq=>.inl hq) ht.size)
       clear q14 r14 ql14 rl14
       clear hp ht
       go_wp2_with fail
       refine wp_region_since_tail 9 rfl (by decide +kernel) (by decide +kernel) (by decide +kernel) (by decide)
        [Is (.bool false),Is (.bool true),Is (.bool true),Is (.pointer (some ⟨pb,0,none⟩)),Is (.pointer (some ⟨pb,0,none⟩)),Is (.pointer (some ⟨pb,0,none⟩)),Is (.pointer (some ⟨pb,2,none⟩)),Is (.int .i64 pl),Is (.bool false)]
        (by repeat (first | exact trivial | refine⟨Is.stable _,?_⟩ | refine⟨Any.stable,?_⟩)) ⟨?_,?_,?_,?_,?_,?_,?_,?_,?_,trivial⟩ ?_
       rotate_right
       ·intro vs w16 hs hk
        simp only[List.take,List.drop,putAll,Act.put,KnowsAll,nthF,Is,List.setIfInBounds_toArray,List.set_cons_zero,List.set_cons_succ,Nat.reduceAdd]at hk ⊢
        try simp only[hk]
        have ht16:Turn (fun q=>q=pb) w15 w16:=Turn.since hs
        have q16:w16.cell? ⟨qb,0,none⟩=some (.pointer (some ⟨pb,0,none⟩)):=(ht16.cell (p:=⟨qb,0,none⟩) ql15 hqp).trans q15
        have r16:w16.cell? ⟨rb,0,none⟩=some (.slice ra n (c-1)):=(ht16.cell (p:=⟨rb,0,none⟩) rl15 hrp).trans r15
        have ql16:=Nat.lt_of_lt_of_le ql15 ht16.size
        have rl16:=Nat.lt_of_lt_of_le rl15 ht16.size
        have HP16:=Lib.hid (show TPa w0 pb tv params pl 0 bv bl w16 from HP15.out.keep hs)
        have HT16:=Lib.hid (HT15.out.trans ht16)
        have HR16:=Lib.hid (RowIn.turn HR15.out ht16 (fun q hq hr=>(HRS15.out q hq).1 (.inl hr)) (fun _ _ h=>h):StrsIn w16 (.slice ra n (c-1)) r)
        have HRS16:=Lib.hid (show Stays (PaOwn pb bv bl) w16 (.slice ra n (c-1)) from HRS15.out.mono (fun q hq=>.inl hq) ht16.size)
        clear q15 r15 ql15 rl15
        clear ht16 hs hk
        go_wp2_with fail
        refine (must_any w16 HP16.out false 70 (by decide)).mono ?_
        rintro e15 w15 ⟨rfl,hp,ht⟩
        have HF:=Lib.hid (HE.out 70 w15 HZ.out (by decide) hp (HT16.out.trans ht))
        clear hp ht q16 r16 ql16 rl16
        go_wp2
        go_end0
        exact HF.out
       all_goals
        intro vs w16 hs hk _
        simp only[List.take,putAll,Act.put,Knows,nthF,Is,List.setIfInBounds_toArray,List.set_cons_zero,List.set_cons_succ,Nat.reduceAdd]at hk ⊢
        try simp only[hk]
       ·go_wp2
        exact⟨_,rfl,rfl,Since.refl _⟩
       ·go_wp2
        exact⟨_,rfl,rfl,Since.refl _⟩
       ·go_wp2
        exact⟨_,rfl,rfl,Since.refl _⟩
       ·have z1:w16.cell? ⟨qb,0,none⟩=some (.pointer (some ⟨pb,0,none⟩)):=(hs.cell (p:=⟨qb,0,none⟩) ql15).trans q15
        have z2:qb<w16.heap.size:=Nat.lt_of_lt_of_le ql15 hs.size
        go_wp2
        exact⟨_,rfl,rfl,Since.refl _⟩
       ·have z1:w16.cell? ⟨qb,0,none⟩=some (.pointer (some ⟨pb,0,none⟩)):=(hs.cell (p:=⟨qb,0,none⟩) ql15).trans q15
        have z2:qb<w16.heap.size:=Nat.lt_of_lt_of_le ql15 hs.size
        go_wp2
        exact⟨_,rfl,rfl,Since.refl _⟩
       ·go_wp2
        exact⟨_,rfl,rfl,Since.refl _⟩
       ·go_wp2
        exact⟨_,rfl,rfl,Since.refl _⟩
       ·have z1:w16.cell? ⟨pb,2,none⟩=some (.int .i64 pl):=(HP15.out.keep hs).cell 2
        have z2:pb<w16.heap.size:=(HP15.out.keep hs).box.lt
        go_wp2
        exact⟨_,rfl,rfl,Since.refl _⟩
       ·go_wp2
        exact⟨_,rfl,congrArg Value.bool (decide_eq_false (by omega)),Since.refl _⟩
      all_goals
       intro vs w14 hs hk _
       simp only[List.take,putAll,Act.put,Knows,nthF,Is,Any,List.setIfInBounds_toArray,List.set_cons_zero,List.set_cons_succ,Nat.reduceAdd]at hk ⊢
       try simp only[hk]
      ·go_wp2
       exact⟨_,rfl,rfl,Since.refl _⟩
      ·go_wp2
       exact⟨_,rfl,rfl,Since.refl _⟩
      ·go_wp2
       exact⟨_,(put_old _ 44).symm,trivial,Since.refl _⟩
      ·go_wp2
       exact⟨_,(put_old _ 45).symm,trivial,Since.refl _⟩
      ·go_wp2
       exact⟨_,(put_old _ 46).symm,trivial,Since.refl _⟩
    ·have HZ:=Lib.hid (show stepSt ⟨params,bl.map FBlk.d,pl⟩ (f::r)=.error 72 from by rw[HSTEP.out,if_neg ho,if_neg hk])
     refine wp_region_since_tail 5 rfl (by decide +kernel) (by decide +kernel) (by decide +kernel) (by decide)
      [Is (.bool false),Is (.bool false),Any,Any,Any]
      (by repeat (first | exact trivial | refine⟨Is.stable _,?_⟩ | refine⟨Any.stable,?_⟩)) ⟨?_,?_,?_,?_,?_,trivial⟩ ?_
     rotate_right
     ·intro vs w14 hs hk
      simp only[List.take,List.drop,putAll,Act.put,KnowsAll,nthF,Is,Any,List.setIfInBounds_toArray,List.set_cons_zero,List.set_cons_succ,Nat.reduceAdd]at hk ⊢
      try simp only[hk]
      have ht14:Turn (fun q=>q=pb) w13 w14:=Turn.since hs
      have q14:w14.cell? ⟨qb,0,none⟩=some (.pointer (some ⟨pb,0,none⟩)):=(ht14.cell (p:=⟨qb,0,none⟩) ql13 hqp).trans q13
      have r14:w14.cell? ⟨rb,0,none⟩=some (.slice ra n (c-1)):=(ht14.cell (p:=⟨rb,0,none⟩) rl13 hrp).trans r13
      have ql14:=Nat.lt_of_lt_of_le ql13 ht14.size
      have rl14:=Nat.lt_of_lt_of_le rl13 ht14.size
      have HP14:=Lib.hid (show TPa w0 pb tv params pl 0 bv bl w14 from HP13.out.keep hs)
      have HT14:=Lib.hid (HT13.out.trans ht14)
      have HR14:=Lib.hid (RowIn.turn HR13.out ht14 (fun q hq hr=>(HRS13.out q hq).1 (.inl hr)) (fun _ _ h=>h):StrsIn w14 (.slice ra n (c-1)) r)
      have HRS14:=Lib.hid (show Stays (PaOwn pb bv bl) w14 (.slice ra n (c-1)) from HRS13.out.mono (fun q hq=>.inl hq) ht14.size)
      clear q13 r13 ql13 rl13
      clear ht14 hs hk
      go_wp2_with fail
      refine (must_any w14 HP14.out false 72 (by decide)).mono ?_
      rintro e15 w15 ⟨rfl,hp,ht⟩
      have HF:=Lib.hid (HE.out 72 w15 HZ.out (by decide) hp (HT14.out.trans ht))
      clear hp ht q14 r14 ql14 rl14
      go_wp2
      go_end0
      exact HF.out
     all_goals
      intro vs w14 hs hk _
      simp only[List.take,putAll,Act.put,Knows,nthF,Is,Any,List.setIfInBounds_toArray,List.set_cons_zero,List.set_cons_succ,Nat.reduceAdd]at hk ⊢
      try simp only[hk]
     ·go_wp2
      exact⟨_,rfl,rfl,Since.refl _⟩
     ·go_wp2
      exact⟨_,rfl,rfl,Since.refl _⟩
     ·go_wp2
      exact⟨_,(put_old _ 44).symm,trivial,Since.refl _⟩
     ·go_wp2
      exact⟨_,(put_old _ 45).symm,trivial,Since.refl _⟩
     ·go_wp2
      exact⟨_,(put_old _ 46).symm,trivial,Since.refl _⟩
 all_goals
  intro vs w8 hs hk _
  simp only[List.take,putAll,Act.put,Knows,nthF,Is,List.setIfInBounds_toArray,List.set_cons_zero,List.set_cons_succ,Nat.reduceAdd]at hk ⊢
  try simp only[hk]
 ·go_wp2
  exact⟨_,rfl,rfl,Since.refl _⟩
 ·go_wp2
  exact⟨_,rfl,rfl,Since.refl _⟩
 ·have z1:=(hs.cell (p:=⟨vb,vo,none⟩) hvb1).trans hc1
  have z2:=Nat.lt_of_lt_of_le hvb1 hs.size
  go_wp2
  exact⟨_,rfl,rfl,Since.refl _⟩
 ·go_wp2
  exact⟨_,rfl,rfl,Since.refl _⟩
 ·go_wp2
  exact⟨_,rfl,rfl,Since.refl _⟩
 ·have hz8:=Nat.le_trans hz1 hs.size
  go_wp2
  exact⟨_,rfl,⟨_,rfl,HeapIs.new _ _ _,hz8⟩,(Since.refl _).alloc _⟩
 ·go_wp2
  exact⟨_,rfl,rfl,Since.refl _⟩
end
end Go.Proofs.YtmhojfpidedjeaaGreatDoor
