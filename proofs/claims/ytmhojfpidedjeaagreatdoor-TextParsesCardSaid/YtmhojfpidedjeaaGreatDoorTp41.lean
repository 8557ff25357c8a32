import Derived.Test.YtmhojfpidedjeaaGreatDoorTp18
namespace Go.Proofs.YtmhojfpidedjeaaGreatDoor
open Go.RowKit Go.Lib
set_option linter.unusedVariables false
set_option maxHeartbeats 8000000
set_option maxRecDepth 100000
attribute [local simp] Zdv Zct
def LnTQ (w0:World) (pb:Nat) (tv:Value) (params pl:Int) (bv:Value) (bl:List FBlk) (l:List ByteArray) (w:World) (x:Ending) (w':World):Prop:=
 x=.returned (.tuple #[])∧∃ params' pl' e' bv' bl',TPa w0 pb tv params' pl' e' bv' bl' w'∧Turn (PaOwn pb bv bl) w w'∧StAns (ZD ⟨params,bl.map FBlk.d,pl⟩ l) e' params' pl' bl'
def Kk (base:Nat) (cs:Array Value) (T:TypeId) (v:Value) (w:World):Prop:=∃ q,v=.pointer (some ⟨q,0,none⟩)∧HeapIs w q cs T∧base≤q
theorem Kk.stable (base:Nat) (cs:Array Value) (T:TypeId):Z7 (Kk base cs T):=fun v w w' ⟨q,h1,h2,h3⟩ s=>⟨q,h1,h2.keep s,h3⟩
def NumRow (base:Nat) (x:Int) (v:Value) (w:World):Prop:=∃ g cap,v=.slice (some ⟨g,0,none⟩) 1 cap∧base≤g∧g<w.heap.size∧w.cell? ⟨g,0,none⟩=some (.int .i64 x)
theorem NumRow.stable (base:Nat) (x:Int):Z7 (NumRow base x):=fun v w w' ⟨g,cap,h1,h2,h3,h4⟩ s=>⟨g,cap,h1,h2,Nat.lt_of_lt_of_le h3 s.size,(s.cell (p:=⟨g,0,none⟩) h3).trans h4⟩
def Xh (base:Nat) (x:Int) (v:Value) (w:World):Prop:=∃ g,v=.pointer (some ⟨g,0,none⟩)∧base≤g∧g<w.heap.size∧w.cell? ⟨g,0,none⟩=some (.int .i64 x)
theorem Xh.stable (base:Nat) (x:Int):Z7 (Xh base x):=fun v w w' ⟨g,h1,h2,h3,h4⟩ s=>⟨g,h1,h2,Nat.lt_of_lt_of_le h3 s.size,(s.cell (p:=⟨g,0,none⟩) h3).trans h4⟩
theorem Xh.stableT {S : Nat→Prop} {base:Nat} (x:Int) (hS:∀ q,S q→q<base):Yd S (Xh base x):=fun v w w' ⟨g,h1,h2,h3,h4⟩ t=>⟨g,h1,h2,Nat.lt_of_lt_of_le h3 t.size,(t.cell (p:=⟨g,0,none⟩) h3 (fun hs=>by have:=hS g hs;omega)).trans h4⟩
def Xv (qb rb:Nat):List MapEntry:=[{ key:=.string ⟨#[102,117,110,99]⟩,val:=.func (.func 71) #[] #[.pointer (some ⟨qb,0,none⟩),.pointer (some ⟨rb,0,none⟩)],born:=0 },{ key:=.string ⟨#[98,108,111,99,107]⟩,val:=.func (.func 72) #[] #[.pointer (some ⟨qb,0,none⟩),.pointer (some ⟨rb,0,none⟩)],born:=1 },{ key:=.string ⟨#[112,104,105]⟩,val:=.func (.func 73) #[] #[.pointer (some ⟨qb,0,none⟩)],born:=2 }]
theorem Zcg (f:ByteArray) (qb rb:Nat):∃ (fv:Value) (kn:Bool),(X3 f (Xv qb rb)).getD .nilFunc=fv∧(X3 f (Xv qb rb)).isSome=kn∧(f=Y8∧kn=true∧fv=.func (.func 71) #[] #[.pointer (some ⟨qb,0,none⟩),.pointer (some ⟨rb,0,none⟩)]∨¬ f=Y8∧f=YW∧kn=true∧fv=.func (.func 72) #[] #[.pointer (some ⟨qb,0,none⟩),.pointer (some ⟨rb,0,none⟩)]∨¬ f=Y8∧¬ f=YW∧f=Wv∧kn=true∧fv=.func (.func 73) #[] #[.pointer (some ⟨qb,0,none⟩)]∨¬ f=Y8∧¬ f=YW∧¬ f=Wv∧kn=false):=by
 unfold Xv;simp only[Zdp,Zeh];by_cases h1:f=Y8
 ·have e1:(f==(⟨#[102,117,110,99]⟩:ByteArray))=true:=(MapKept.bytes_beq _ _).2 h1;rw[e1];exact⟨_,_,rfl,rfl,.inl ⟨h1,rfl,rfl⟩⟩
 ·have e1:(f==(⟨#[102,117,110,99]⟩:ByteArray))=false:=by cases hb:f==(⟨#[102,117,110,99]⟩:ByteArray) with | false=>rfl | true=>exact absurd ((MapKept.bytes_beq _ _).1 hb) h1
  by_cases h2:f=YW
  ·have e2:(f==(⟨#[98,108,111,99,107]⟩:ByteArray))=true:=(MapKept.bytes_beq _ _).2 h2;rw[e1,e2];exact⟨_,_,rfl,rfl,.inr (.inl ⟨h1,h2,rfl,rfl⟩)⟩
  ·have e2:(f==(⟨#[98,108,111,99,107]⟩:ByteArray))=false:=by cases hb:f==(⟨#[98,108,111,99,107]⟩:ByteArray) with | false=>rfl | true=>exact absurd ((MapKept.bytes_beq _ _).1 hb) h2
   by_cases h3:f=Wv
   ·have e3:(f==(⟨#[112,104,105]⟩:ByteArray))=true:=(MapKept.bytes_beq _ _).2 h3;rw[e1,e2,e3];exact⟨_,_,rfl,rfl,.inr (.inr (.inl ⟨h1,h2,h3,rfl,rfl⟩))⟩
   ·have e3:(f==(⟨#[112,104,105]⟩:ByteArray))=false:=by cases hb:f==(⟨#[112,104,105]⟩:ByteArray) with | false=>rfl | true=>exact absurd ((MapKept.bytes_beq _ _).1 hb) h3
    rw[e1,e2,e3];exact⟨_,_,rfl,rfl,.inr (.inr (.inr ⟨h1,h2,h3,rfl⟩))⟩
theorem Zae (w:World) {qb rb pb:Nat} {ra:Option Addr} {n rc:Nat} {pl:Int} (hq:w.cell? ⟨qb,0,none⟩=some (.pointer (some ⟨pb,0,none⟩))) (hr:w.cell? ⟨rb,0,none⟩=some (.slice ra n rc)) (hp:w.cell? ⟨pb,2,none⟩=some (.int .i64 pl)) (hb:qb<w.heap.size) (ha:rb<w.heap.size) (hc:pb<w.heap.size):Calls Tryz.prog 71 #[.pointer (some ⟨qb,0,none⟩),.pointer (some ⟨rb,0,none⟩)] w fun e w'=>e=.returned (.bool (pl==0&&(n:Int)==1))∧w'=w:=by
 cases h1:pl==0
 ·go_enter Tryz.func71,Tryz.ntmps71
  go_wp2
  go_ret
  exact⟨rfl,rfl⟩
 ·obtain⟨o,ho⟩:∃ o,((n:Int)==1)=o:=⟨_,rfl⟩
  rw[ho];go_enter Tryz.func71,Tryz.ntmps71
  go_wp2
  go_ret
  exact⟨rfl,rfl⟩
theorem Zad (w:World) {qb rb pb:Nat} {ra:Option Addr} {n rc:Nat} {pl:Int} (hq:w.cell? ⟨qb,0,none⟩=some (.pointer (some ⟨pb,0,none⟩))) (hr:w.cell? ⟨rb,0,none⟩=some (.slice ra n rc)) (hp:w.cell? ⟨pb,2,none⟩=some (.int .i64 pl)) (hb:qb<w.heap.size) (ha:rb<w.heap.size) (hc:pb<w.heap.size):Calls Tryz.prog 72 #[.pointer (some ⟨qb,0,none⟩),.pointer (some ⟨rb,0,none⟩)] w fun e w'=>e=.returned (.bool (pl==1&&(n:Int)==1))∧w'=w:=by
 cases h1:pl==1
 ·go_enter Tryz.func72,Tryz.ntmps72
  go_wp2
  go_ret
  exact⟨rfl,rfl⟩
 ·obtain⟨o,ho⟩:∃ o,((n:Int)==1)=o:=⟨_,rfl⟩
  rw[ho];go_enter Tryz.func72,Tryz.ntmps72
  go_wp2
  go_ret
  exact⟨rfl,rfl⟩
theorem ZcH (w:World) {qb pb:Nat} {pl:Int} (hq:w.cell? ⟨qb,0,none⟩=some (.pointer (some ⟨pb,0,none⟩))) (hp:w.cell? ⟨pb,2,none⟩=some (.int .i64 pl)) (ha:qb<w.heap.size) (hb:pb<w.heap.size):Calls Tryz.prog 73 #[.pointer (some ⟨qb,0,none⟩)] w fun e w'=>e=.returned (.bool (pl==2))∧w'=w:=by
 go_enter Tryz.func73,Tryz.ntmps73
 go_wp2
 go_ret
 exact⟨rfl,rfl⟩
section
variable {w0:World} {pb:Nat} {tv:Value} {params pl:Int} {bv:Value} {bl:List FBlk}
theorem Zf3 (w:World) (h:TPa w0 pb tv params pl 0 bv bl w) (hL:Ys w0) (v:Value) (r:List ByteArray) (hl:StrsIn w v r) (ha:Stays (PaOwn pb bv bl) w v) (hn:r.length≤400000) (b:FBlk) (hb:bl[bl.length-1]? = some b) (hd:bl.length≤1000000) (hc:b.phis.length≤1000000):Calls Tryz.prog 78 #[.pointer (some ⟨pb,0,none⟩),v] w (ZdG w0 pb tv params pl bv bl r w):=by
 cases r with
 | nil =>
  obtain⟨a,c,e1,_⟩:=RowIn.shape hl;obtain rfl:v=.slice a 0 c:=e1;exact Zf1 w h a c
 | cons d r=>exact Zfa w h hL v d r hl ha (by rw[List.length_cons]at hn;omega) b hb hd hc
theorem Zd6 (w:World) (h:TPa w0 pb tv params pl 0 bv bl w) (hL:Ys w0) (tz:0≤pl∧pl≤3∧(2≤pl→bl≠[])) (v:Value) (f:ByteArray) (r:List ByteArray) (hl:StrsIn w v (f::r)) (tm:Stays (PaOwn pb bv bl) w v) (hn:r.length≤400000) (Te:bl.length≤900000) (hX:∀ b,bl[bl.length-1]? = some b→b.phis.length≤1000000∧b.ins.length≤1000000):Calls Tryz.prog 39 #[.pointer (some ⟨pb,0,none⟩),v] w (LnTQ w0 pb tv params pl bv bl (f::r) w):=by
 obtain⟨a,c,e1,_⟩:=RowIn.shape hl;obtain⟨n,Hk⟩:∃ n,r.length=n:=⟨_,rfl⟩
 rw[List.length_cons,Hk]at e1;subst e1;obtain⟨vb,vo,x,ha,HU,hx,H8,t3⟩:=StrsIn.at hl (k:=0) (by simp);obtain rfl:f=x:=by simpa using hx
 subst ha;rw[Nat.add_zero]at H8;have Ty:n+1≤c:=by
  rcases hl with ⟨_,_,h2⟩|⟨_,_,_,h1,h2,_⟩
  ·cases h2
  ·cases h1;rw[List.length_cons,Hk]at h2;exact h2
 obtain⟨ra,tt⟩:∃ ra,(if c=1 then some (⟨vb,vo,none⟩:Addr) else some ⟨vb,vo+1,none⟩)=ra:=⟨_,rfl⟩
 have Hq:∀ q,(Value.slice ra n (c-1)).ownBlock=some q→q=vb:=fun q hq=>by
  rw[←tt]at hq;by_cases h1:c=1
  ·rw[if_pos h1]at hq;cases hq;rfl
  ·rw[if_neg h1]at hq;cases hq;rfl
 have hS:StrsIn w (.slice ra n (c-1)) r:=by
  rw[←tt];by_cases h1:c=1
  ·rw[if_pos h1];have:n=0:=by omega
   subst this;subst h1;exact .inl ⟨_,rfl,List.length_eq_zero_iff.1 Hk⟩
  ·rw[if_neg h1];exact RowIn.rest hl
 have H1:Stays (PaOwn pb bv bl) w (.slice ra n (c-1)):=fun q hq=>by have:=Hq q hq;subst this;exact tm _ rfl
 have H:=hid h;have hY:=hid hL;have Tn:=hid tz;have th:=hid hX;have Hh:=hid Hk;rw[Hk]at hn;have HR:=hid hS;have Tk:=hid H1;obtain⟨op,H5⟩:∃ op,Yp f=op:=⟨_,rfl⟩
 obtain⟨kd,HJ⟩:∃ kd,WC f=kd:=⟨_,rfl⟩
 have tO:=JY f;have tP:=Zah f;rw[H5]at tO;rw[HJ]at tP;have tL:=hid H5;have Tp:=hid HJ;obtain⟨id,h6⟩:∃ id,Lib.idxOfS ZY f=id:=⟨_,rfl⟩
 have tQ:1+id=kd:=by rw[←h6,←HJ];rfl
 subst tQ;have Tr:=hid h6;have t9:=@run_makeMap Tryz.prog;have t4:=@JT Tryz.prog _ _ _ Tryz.underlying142 Tryz.underlying9;have h0:((⟨#[98,108,111,99,107]⟩:ByteArray)==⟨#[102,117,110,99]⟩)=false:=by kernel_rfl
 have t8:((⟨#[112,104,105]⟩:ByteArray)==⟨#[102,117,110,99]⟩)=false:=by kernel_rfl
 have t7:((⟨#[112,104,105]⟩:ByteArray)==⟨#[98,108,111,99,107]⟩)=false:=by kernel_rfl
 clear h hl tm Hk tz hX H5 HJ hx t3 Hq hS H1 hL h6;go_enter Tryz.func39,Tryz.ntmps39
 go_wp2_with fail
 obtain⟨qb,HH⟩:∃ q,w.heap.size=q:=⟨_,rfl⟩
 obtain⟨w1,HC⟩:∃ w1,w.alloc (.cells #[.pointer (some ⟨pb,0,none⟩)] 91)=w1:=⟨_,rfl⟩
 have HG:Since w w1:=by rw[←HC];exact (Since.refl w).alloc _
 have H2:HeapIs w1 qb #[.pointer (some ⟨pb,0,none⟩)] 91:=by rw[←HC,←HH];exact HeapIs.new _ _ _
 have ti:qb+1≤w1.heap.size:=H2.lt;rw[HC,HH];have tE:w1.cell? ⟨vb,vo,none⟩=some (.string f):=(HG.cell (p:=⟨vb,vo,none⟩) HU).trans H8;have Hw:vb<w1.heap.size:=Nat.lt_of_lt_of_le HU HG.size;have Ti:=hid HG;have Tl:=hid H2;have tJ:=hid HH;clear HC HG H2 HH H8 HU;refine Zb 7 rfl (by decide +kernel) (by decide +kernel) (by decide +kernel) (by decide)
  [Is (.slice (some ⟨vb,vo,none⟩) (n+1) c),Is (.pointer (some ⟨vb,vo,none⟩)),Is (.string f),Is (.slice (some ⟨vb,vo,none⟩) (n+1) c),Is (.slice ra n (c-1)),Kk (qb+1) #[.slice none 0 0] 89,Is (.string f)]
  (by repeat (first | exact trivial | refine⟨Is.stable _,?_⟩ | refine⟨Kk.stable _ _ _,?_⟩)) ⟨?_,?_,?_,?_,?_,?_,?_,trivial⟩ ?_
 rotate_right
 ·intro vs w8 hs hk;simp only[List.take,List.drop,putAll,Act.put,Zc,Zd,Is,List.setIfInBounds_toArray,List.set_cons_zero,List.set_cons_succ,Nat.reduceAdd]at hk ⊢;try simp only[hk]
  obtain⟨rb,Hq,Ht,ts⟩:Kk (qb+1) #[.slice none 0 0] 89 (vs 5) w8:=by exact hk.2.2.2.2.2.1
  simp only[Hq];have Tu:=hid Ht;have tG:=hid hs;have tc:=hid ts;have tS:=Ht.lt;have tT:=Ht.frozen;have tU:=Ht.cell 0;clear hk hs Ht ts Hq;go_upto_region 2 with (fail)
  obtain⟨w9,Hz⟩:∃ w9,w8.setCell ⟨rb,0,none⟩ (.slice ra n (c-1))=w9:=⟨_,rfl⟩
  have Hj:Turn (fun q=>q=rb) w8 w9:=by rw[←Hz];exact (Turn.refl (fun q=>q=rb) w8).setCell (p:=⟨rb,0,none⟩) rfl _
  have tu:HeapIs w9 rb #[.slice ra n (c-1)] 89:=by rw[←Hz];exact Tu.out.set 0 _
  have tx:HeapIs w9 qb #[.pointer (some ⟨pb,0,none⟩)] 91:=(Tl.out.keep tG.out).turn Hj (by have:=tc.out;omega);have tp:Since w w9:=Hj.toSince (Ti.out.trans tG.out) fun q hq e=>by have:=tc.out;have:=tJ.out;omega
  rw[Hz];have tI:=hid tu;have tK:=hid tx;have Hl:=hid tp;clear Hz Hj tu tx tp tS tT tU tE Hw ti;obtain⟨mb,Ta⟩:∃ q,w9.heap.size=q:=⟨_,rfl⟩
  have te:=zH ((w9.alloc (.map (Xv qb rb).toArray 3)).heap[mb]? = some (.map (Xv qb rb).toArray 3)) (by rw[←Ta];exact (MapKept.heap_alloc w9 _).1)
  have HY:Since w9 (w9.alloc (.map (Xv qb rb).toArray 3)):=(Since.refl w9).alloc _;have Ho:=hid HY;clear HY;go_wp2_with fail
  obtain⟨w10,Hv⟩:∃ w10,w9.alloc (.map (Xv qb rb).toArray 3)=w10:=⟨_,rfl⟩
  have HB:w9.alloc (.map #[{ key:=.string ⟨#[102,117,110,99]⟩,val:=.func (.func 71) #[] #[.pointer (some ⟨qb,0,none⟩),.pointer (some ⟨rb,0,none⟩)],born:=0 },{ key:=.string ⟨#[98,108,111,99,107]⟩,val:=.func (.func 72) #[] #[.pointer (some ⟨qb,0,none⟩),.pointer (some ⟨rb,0,none⟩)],born:=1 },{ key:=.string ⟨#[112,104,105]⟩,val:=.func (.func 73) #[] #[.pointer (some ⟨qb,0,none⟩)],born:=2 }] 3)=w10:=Hv;rw[HB];rw[Hv]at Ho te;clear Hv HB;have HI:=hY.out.keep (H.out.old.trans (Hl.out.trans Ho.out));refine (J9 w10 HI.tab).mono ?_;rintro e11 w11 ⟨rfl,Hn,HW⟩;generalize w10.heap.size=fb at Hn ⊢;have tl:Since w10 w11:=HW;have Hx:=hid tl;have Tq:=hid (Tryz.slices_Index_string fb 0 5 5 ZY f w11 (by decide) (by decide) (fun j hj=>Hn.2 j hj));clear Hn HW tl HI;go_wp2_with fail
  refine Tq.out.mono ?_;rintro e12 w12 ⟨rfl,tN⟩;obtain rfl:w11=w12:=tN.symm;have h6:Lib.idxOfS (ZY.take 5) f=id:=Tr.out;rw[h6];clear h6;go_wp2_with fail
  refine (Zdj f w11 (hY.out.keep (H.out.old.trans (Hl.out.trans (Ho.out.trans Hx.out)))).tab).mono ?_;rintro e13 w13 ⟨rfl,h9⟩;have h9:Since w11 w13:=h9;rw[tL.out];have hV:=hid (Ho.out.trans (Hx.out.trans h9));have tZ:=zH (w13.heap[mb]? = some (.map (Xv qb rb).toArray 3)) ((Below.block (Hx.out.trans h9) mb (by have:=(Array.getElem?_eq_some_iff.1 te.out).1;exact this)).trans te.out)
  obtain⟨fv,kn,tD,tC,Tc⟩:=Zcg f qb rb;have tB:=Zck Tryz.underlying142 Tryz.underlying9 .nilFunc ZdN w13 (Xv qb rb) mb 3 f tZ.out rfl;rw[tD,tC]at tB;clear tD tC h9 t9 t4 h0 t8 t7;go_upto_region 8 with (fail)
  have H4:=H.out.keep (Hl.out.trans hV.out);have q13:w13.cell? ⟨qb,0,none⟩=some (.pointer (some ⟨pb,0,none⟩)):=(tK.out.keep hV.out).cell 0;have r13:w13.cell? ⟨rb,0,none⟩=some (.slice ra n (c-1)):=(tI.out.keep hV.out).cell 0;have ql13:=(tK.out.keep hV.out).lt;have rl13:=(tI.out.keep hV.out).lt;have hh:=hid H4;have hM:=hid (Turn.since (S:=fun q=>q=pb) (Hl.out.trans hV.out));have hO:=hid (StrsIn.keep HR.out (Hl.out.trans hV.out));have hg:=zH (Stays (PaOwn pb bv bl) w13 (.slice ra n (c-1))) (Tk.out.mono (fun q hq=>.inl hq) (Hl.out.trans hV.out).size);have HE:Hid (∀ (m:Int) w',ZD ⟨params,bl.map FBlk.d,pl⟩ (f::r)=.error m→m≠0→TPa w0 pb tv params pl m bv bl w'→Turn (fun q=>q=pb) w w'→LnTQ w0 pb tv params pl bv bl (f::r) w (.returned (.tuple #[])) w'):=hid (fun m w' h1 h2 h3 h4=>⟨rfl,params,pl,m,bv,bl,h3,h4.mono (fun q _ hq=>.inl hq),by rw[h1];exact⟨rfl,h2⟩⟩)
  have Hm:=zH (∀ q,PaOwn pb bv bl q→q<qb∧q<rb) (fun q hq=>by have:=H.out.lt q hq;have:=tJ.out;have:=tc.out;omega);have hi:qb≠pb:=by have:=Hm.out pb (.inl rfl);omega
  have hy:rb≠pb:=by have:=Hm.out pb (.inl rfl);omega
  obtain⟨Tx,Tw,H3⟩:=Tn.out;have Hy:=hid H3;clear H4 H3 tB;rcases Tc with ⟨g1,rfl,rfl⟩|⟨g1,g2,rfl,rfl⟩|⟨g1,g2,g3,rfl,rfl⟩|⟨g1,g2,g3,rfl⟩
  ·have q1:(f.toList==[102,117,110,99])=true:=ZcN g1;have hA:=hid (ZaD (s:=⟨params,bl.map FBlk.d,pl⟩) (r:=r) g1);clear g1;by_cases hR:pl=0
   ·by_cases h0:n=1
    ·subst hR;subst h0;have hG:=zH (((0:Int)==0&&((1:Nat):Int)==1)=true) rfl;obtain⟨x0,rfl⟩:=JA Hh.out;refine Zb 5 rfl (by decide +kernel) (by decide +kernel) (by decide +kernel) (by decide)
      [Is (.bool true),Is (.bool true),Is (.pointer (some ⟨pb,0,none⟩)),Is (.func (.func 71) #[] #[.pointer (some ⟨qb,0,none⟩),.pointer (some ⟨rb,0,none⟩)]),Is (.bool true)]
      (by repeat (first | exact trivial | refine⟨Is.stable _,?_⟩ | refine⟨Any.stable,?_⟩)) ⟨?_,?_,?_,?_,?_,trivial⟩ ?_
     rotate_right
     ·intro vs w14 hs hk;simp only[List.take,List.drop,putAll,Act.put,Zc,Zd,Is,List.setIfInBounds_toArray,List.set_cons_zero,List.set_cons_succ,Nat.reduceAdd]at hk ⊢;try simp only[hk]
      have hc:Turn (fun q=>q=pb) w13 w14:=Turn.since hs;have q14:w14.cell? ⟨qb,0,none⟩=some (.pointer (some ⟨pb,0,none⟩)):=(hc.cell (p:=⟨qb,0,none⟩) ql13 hi).trans q13;have r14:w14.cell? ⟨rb,0,none⟩=some (.slice ra 1 (c-1)):=(hc.cell (p:=⟨rb,0,none⟩) rl13 hy).trans r13;have ql14:=Nat.lt_of_lt_of_le ql13 hc.size;have rl14:=Nat.lt_of_lt_of_le rl13 hc.size;have hv:=zH (TPa w0 pb tv params 0 0 bv bl w14) (hh.out.keep hs);have hu:=hid (hM.out.trans hc);have hC:=hid (RowIn.turn hO.out hc (fun q hq hr=>(hg.out q hq).1 (.inl hr)) (fun _ _ h=>h):StrsIn w14 (.slice ra 1 (c-1)) [x0])
      have hf:=zH (Stays (PaOwn pb bv bl) w14 (.slice ra 1 (c-1))) (hg.out.mono (fun q hq=>.inl hq) hc.size);clear q13 r13 ql13 rl13;clear hc hs hk;go_wp2_with fail
      refine (Zw w14 hv.out true 70 (by decide)).mono ?_;rintro e15 w15 ⟨rfl,hp,ht⟩;have q15:w15.cell? ⟨qb,0,none⟩=some (.pointer (some ⟨pb,0,none⟩)):=(ht.cell (p:=⟨qb,0,none⟩) ql14 hi).trans q14;have r15:w15.cell? ⟨rb,0,none⟩=some (.slice ra 1 (c-1)):=(ht.cell (p:=⟨rb,0,none⟩) rl14 hy).trans r14;have ql15:=Nat.lt_of_lt_of_le ql14 ht.size;have rl15:=Nat.lt_of_lt_of_le rl14 ht.size;have hz:=zH (TPa w0 pb tv params 0 0 bv bl w15) hp;have hK:=hid (hu.out.trans ht);have hN:=hid (RowIn.turn hC.out ht (fun q hq hr=>(hf.out q hq).1 (.inl hr)) (fun _ _ h=>h):StrsIn w15 (.slice ra 1 (c-1)) [x0])
      have hm:=zH (Stays (PaOwn pb bv bl) w15 (.slice ra 1 (c-1))) (hf.out.mono (fun q hq=>.inl hq) ht.size);clear q14 r14 ql14 rl14;clear hp ht;go_wp2_with fail
      refine Zb 9 rfl (by decide +kernel) (by decide +kernel) (by decide +kernel) (by decide)
       [Is (.bool true),Is (.bool false),Is (.bool false),Any,Any,Any,Any,Any,Any]
       (by repeat (first | exact trivial | refine⟨Is.stable _,?_⟩ | refine⟨Any.stable,?_⟩)) ⟨?_,?_,?_,?_,?_,?_,?_,?_,?_,trivial⟩ ?_
      rotate_right
      ·intro vs w16 hs hk;simp only[List.take,List.drop,putAll,Act.put,Zc,Zd,Is,Any,List.setIfInBounds_toArray,List.set_cons_zero,List.set_cons_succ,Nat.reduceAdd]at hk ⊢;try simp only[hk]
       have he:Turn (fun q=>q=pb) w15 w16:=Turn.since hs;have q16:w16.cell? ⟨qb,0,none⟩=some (.pointer (some ⟨pb,0,none⟩)):=(he.cell (p:=⟨qb,0,none⟩) ql15 hi).trans q15;have r16:w16.cell? ⟨rb,0,none⟩=some (.slice ra 1 (c-1)):=(he.cell (p:=⟨rb,0,none⟩) rl15 hy).trans r15;have ql16:=Nat.lt_of_lt_of_le ql15 he.size;have rl16:=Nat.lt_of_lt_of_le rl15 he.size;have hP:=zH (TPa w0 pb tv params 0 0 bv bl w16) (hz.out.keep hs);have hJ:=hid (hK.out.trans he);have hQ:=hid (RowIn.turn hN.out he (fun q hq hr=>(hm.out q hq).1 (.inl hr)) (fun _ _ h=>h):StrsIn w16 (.slice ra 1 (c-1)) [x0])
       have hB:=zH (Stays (PaOwn pb bv bl) w16 (.slice ra 1 (c-1))) (hm.out.mono (fun q hq=>.inl hq) he.size);clear q15 r15 ql15 rl15;clear he hs hk;obtain⟨d,hd⟩:∃ d,ZS x0=d:=⟨_,rfl⟩
       have HD:=hid hd;have Tm:=zH (pb<qb) ((Hm.out pb (.inl rfl)).1);clear hd;go_wp2_with fail
       refine Z4 6 3 [3] [0,0,0,0,1,1] [1,0,0,0,1,1] [0,0,0,1,0,0] (fun q=>q=pb) (fun p w18=>TPa w0 pb tv params 0 (([0,numsE 0 [x0]]:List Int).getD p 0) bv bl w18) rfl (by decide +kernel) (by decide +kernel) (by decide +kernel) (by decide) (by decide +kernel)
        [Is (.pointer (some ⟨pb,0,none⟩)),Is (.pointer (some ⟨pb,0,none⟩)),Is (.slice ra 1 (c-1)),NumRow qb d,Xh qb d,Is (.int .i64 d)]
        (by repeat (first | exact trivial | refine⟨fun h=>absurd rfl h,?_⟩ | refine⟨fun _=>Is.stableT _ _,?_⟩ | refine⟨fun _=>Any.stableT _,?_⟩ | refine⟨fun _=>Xh.stableT _ (fun q hq=>by rw[hq];exact Tm.out),?_⟩)) (by repeat (first | exact trivial | refine⟨Is.stable _,?_⟩ | refine⟨Any.stable,?_⟩ | refine⟨NumRow.stable _ _,?_⟩ | refine⟨Xh.stable _ _,?_⟩)) (hP.out.keep ((Since.refl w16).drew)) ⟨?_,?_,?_,?_,?_,?_,trivial⟩ ?_
       rotate_right
       ·intro vs w18 ht hH hk;simp only[List.take,List.drop,putAll,Act.put,Zc,Zd,Is,List.setIfInBounds_toArray,List.set_cons_zero,List.set_cons_succ,Nat.reduceAdd]at hk ⊢;try simp only[hk]
        have hZ:TPa w0 pb tv params 0 (numsE 0 [x0]) bv bl w18:=hH;have k0:w18.cell? ⟨pb,0,none⟩=some (.int .i64 params):=hZ.cell 0;have k2:w18.cell? ⟨pb,2,none⟩=some (.int .i64 0):=hZ.cell 2;have kl5:=hZ.box.lt;have kf5:=hZ.box.frozen;have q18:w18.cell? ⟨qb,0,none⟩=some (.pointer (some ⟨pb,0,none⟩)):=(ht.cell (p:=⟨qb,0,none⟩) ql16 hi).trans q16;have ql18:=Nat.lt_of_lt_of_le ql16 ht.size;have Hf:=hid ((hZ.put 0 (.int .i64 d) (params':=d) (pl':=0) (e':=numsE 0 [x0]) (tl':=[tv]) rfl).put 2 (.int .i64 1) (params':=d) (pl':=1) (e':=numsE 0 [x0]) (tl':=[tv]) rfl);have Hb:=hid (hJ.out.trans ht);clear hZ hH hk ht q16 r16 ql16 rl16;go_wp2
        go_end0
        refine⟨rfl,d,1,numsE 0 [x0],bv,bl,Hf.out,((Hb.out.mono (fun q _ hq=>.inl hq)).setCell (p:=⟨pb,0,none⟩) (.inl rfl) _).setCell (p:=⟨pb,2,none⟩) (.inl rfl) _,?_⟩;rw[hA.out,if_pos (by simp)];unfold numsE
        cases H6:ZZ [x0]
        ·exact⟨rfl,by decide⟩
        ·exact⟨rfl,by rw[←HD.out];rfl⟩
       all_goals
        intro p vs w18 Tb Td ht hH hk;simp only[List.take,putAll,Act.put,Zh,Zd,Is,List.setIfInBounds_toArray,List.set_cons_zero,List.set_cons_succ,Nat.reduceAdd]at hk ⊢;try simp only[hk]
       iterate 2
        ·have z1:w18.cell? ⟨qb,0,none⟩=some (.pointer (some ⟨pb,0,none⟩)):=(ht.cell (p:=⟨qb,0,none⟩) ql16 hi).trans q16;have z2:qb<w18.heap.size:=Nat.lt_of_lt_of_le ql16 ht.size;go_wp2
         exact⟨_,rfl,rfl,Since.refl _,hH⟩
       ·have z1:w18.cell? ⟨rb,0,none⟩=some (.slice ra 1 (c-1)):=(ht.cell (p:=⟨rb,0,none⟩) rl16 hy).trans r16;have z2:rb<w18.heap.size:=Nat.lt_of_lt_of_le rl16 ht.size;go_wp2
        exact⟨_,rfl,rfl,Since.refl _,hH⟩
       ·obtain rfl:p=0:=by omega
        have hZ:TPa w0 pb tv params 0 0 bv bl w18:=hH;have tw:StrsIn w18 (.slice ra 1 (c-1)) [x0]:=RowIn.turn hQ.out ht (fun q hq hr=>(hB.out q hq).1 (.inl hr)) (fun _ _ h=>h)
        have tq:Stays (fun q=>q=pb) w18 (.slice ra 1 (c-1)):=hB.out.mono (fun q hq=>.inl (.inl hq)) ht.size
        have TA:=Nat.lt_of_lt_of_le ql16 ht.size;clear hk hH;go_wp2_with fail
        refine (Wj w18 hZ hY.out _ [x0] tw tq (by simp)).mono ?_;rintro e9 w19 ⟨rv,rfl,hS,tA,Hj⟩;obtain⟨g,gc,rfl,HM,HL,HK,H7,Hs⟩:=WM (show w19.ownsRow _ _ 1 _ 1 [.int .i64 (ZS x0)] from hS);rw[HD.out]at Hs;have HX:=zH (NumRow qb d (.slice (some ⟨g,0,none⟩) 1 gc) w19) ⟨g,gc,rfl,by omega,H7,Hs⟩;have Tg:=hid Hj;have To:=hid tA;clear hZ tw tq hS tA Hj Hs H7;go_wp2
        exact⟨_,rfl,HX.out,Tg.out,To.out⟩
       ·obtain⟨g,gc,Hp,HM,HL,HK⟩:NumRow qb d (vs 3) w18:=hk.1;simp only[Hp];have HX:=zH (Xh qb d (.pointer (some ⟨g,0,none⟩)) w18) ⟨g,rfl,HM,HL,HK⟩;clear hk Hp;go_wp2
        exact⟨_,rfl,HX.out,Since.refl _,hH⟩
       ·obtain⟨g,Hp,HM,HL,HK⟩:Xh qb d (vs 4) w18:=hk.1;simp only[Hp];clear hk Hp;go_wp2
        exact⟨_,rfl,rfl,Since.refl _,hH⟩
      all_goals
       intro vs w16 hs hk _;simp only[List.take,putAll,Act.put,Zh,Zd,Is,Any,List.setIfInBounds_toArray,List.set_cons_zero,List.set_cons_succ,Nat.reduceAdd]at hk ⊢;try simp only[hk]
      iterate 3
       ·go_wp2
        exact⟨_,rfl,rfl,.refl _⟩
      ·go_wp2
       exact⟨_,(Zy _ 68).symm,trivial,.refl _⟩
      ·go_wp2
       exact⟨_,(Zy _ 69).symm,trivial,.refl _⟩
      ·go_wp2
       exact⟨_,(Zy _ 70).symm,trivial,.refl _⟩
      ·go_wp2
       exact⟨_,(Zy _ 71).symm,trivial,.refl _⟩
      ·go_wp2
       exact⟨_,(Zy _ 72).symm,trivial,.refl _⟩
      ·go_wp2
       exact⟨_,(Zy _ 73).symm,trivial,.refl _⟩
     all_goals
      intro vs w14 hs hk _;simp only[List.take,putAll,Act.put,Zh,Zd,Is,List.setIfInBounds_toArray,List.set_cons_zero,List.set_cons_succ,Nat.reduceAdd]at hk ⊢;try simp only[hk]
     iterate 2
      ·go_wp2
       exact⟨_,rfl,rfl,.refl _⟩
     ·have z1:w14.cell? ⟨qb,0,none⟩=some (.pointer (some ⟨pb,0,none⟩)):=(hs.cell (p:=⟨qb,0,none⟩) ql13).trans q13;have z2:qb<w14.heap.size:=Nat.lt_of_lt_of_le ql13 hs.size;go_wp2
      exact⟨_,rfl,rfl,.refl _⟩
     ·go_wp2
      exact⟨_,rfl,rfl,.refl _⟩
     ·have y1:w14.cell? ⟨qb,0,none⟩=some (.pointer (some ⟨pb,0,none⟩)):=(hs.cell (p:=⟨qb,0,none⟩) ql13).trans q13;have y2:w14.cell? ⟨rb,0,none⟩=some (.slice ra 1 (c-1)):=(hs.cell (p:=⟨rb,0,none⟩) rl13).trans r13;have y3:w14.cell? ⟨pb,2,none⟩=some (.int .i64 0):=(hh.out.keep hs).cell 2;have y4:pb<w14.heap.size:=(hh.out.keep hs).box.lt;go_wp2_with fail
      refine (Zae w14 y1 y2 y3 (Nat.lt_of_lt_of_le ql13 hs.size) (Nat.lt_of_lt_of_le rl13 hs.size) y4).mono ?_;rintro e15 w15 ⟨rfl,hF⟩;obtain rfl:w14=w15:=hF.symm;rw[hG.out];go_wp2
      exact⟨_,rfl,rfl,.refl _⟩
    ·have hG:=zH ((pl==0&&(n:Int)==1)=false) (by simp;omega);have HZ:=zH (ZD ⟨params,bl.map FBlk.d,pl⟩ (f::r)=.error 70) (by rw[hA.out,if_neg];rw[Hh.out];exact fun h=>h0 h.2);clear hR h0;refine Zb 5 rfl (by decide +kernel) (by decide +kernel) (by decide +kernel) (by decide)
      [Is (.bool true),Is (.bool true),Is (.pointer (some ⟨pb,0,none⟩)),Is (.func (.func 71) #[] #[.pointer (some ⟨qb,0,none⟩),.pointer (some ⟨rb,0,none⟩)]),Is (.bool false)]
      (by repeat (first | exact trivial | refine⟨Is.stable _,?_⟩ | refine⟨Any.stable,?_⟩)) ⟨?_,?_,?_,?_,?_,trivial⟩ ?_
     rotate_right
     ·intro vs w14 hs hk;simp only[List.take,List.drop,putAll,Act.put,Zc,Zd,Is,List.setIfInBounds_toArray,List.set_cons_zero,List.set_cons_succ,Nat.reduceAdd]at hk ⊢;try simp only[hk]
      have hc:Turn (fun q=>q=pb) w13 w14:=Turn.since hs;have q14:w14.cell? ⟨qb,0,none⟩=some (.pointer (some ⟨pb,0,none⟩)):=(hc.cell (p:=⟨qb,0,none⟩) ql13 hi).trans q13;have r14:w14.cell? ⟨rb,0,none⟩=some (.slice ra n (c-1)):=(hc.cell (p:=⟨rb,0,none⟩) rl13 hy).trans r13;have ql14:=Nat.lt_of_lt_of_le ql13 hc.size;have rl14:=Nat.lt_of_lt_of_le rl13 hc.size;have hv:=zH (TPa w0 pb tv params pl 0 bv bl w14) (hh.out.keep hs);have hu:=hid (hM.out.trans hc);have hC:=hid (RowIn.turn hO.out hc (fun q hq hr=>(hg.out q hq).1 (.inl hr)) (fun _ _ h=>h):StrsIn w14 (.slice ra n (c-1)) r)
      have hf:=zH (Stays (PaOwn pb bv bl) w14 (.slice ra n (c-1))) (hg.out.mono (fun q hq=>.inl hq) hc.size);clear q13 r13 ql13 rl13;clear hc hs hk;go_wp2_with fail
      refine (Zw w14 hv.out false 70 (by decide)).mono ?_;rintro e15 w15 ⟨rfl,hp,ht⟩;have HF:=hid (HE.out 70 w15 HZ.out (by decide) hp (hu.out.trans ht));clear hp ht q14 r14 ql14 rl14;go_wp2
      go_end0
      exact HF.out
     all_goals
      intro vs w14 hs hk _;simp only[List.take,putAll,Act.put,Zh,Zd,Is,List.setIfInBounds_toArray,List.set_cons_zero,List.set_cons_succ,Nat.reduceAdd]at hk ⊢;try simp only[hk]
     iterate 2
      ·go_wp2
       exact⟨_,rfl,rfl,.refl _⟩
     ·have z1:w14.cell? ⟨qb,0,none⟩=some (.pointer (some ⟨pb,0,none⟩)):=(hs.cell (p:=⟨qb,0,none⟩) ql13).trans q13;have z2:qb<w14.heap.size:=Nat.lt_of_lt_of_le ql13 hs.size;go_wp2
      exact⟨_,rfl,rfl,.refl _⟩
     ·go_wp2
      exact⟨_,rfl,rfl,.refl _⟩
     ·have y1:w14.cell? ⟨qb,0,none⟩=some (.pointer (some ⟨pb,0,none⟩)):=(hs.cell (p:=⟨qb,0,none⟩) ql13).trans q13;have y2:w14.cell? ⟨rb,0,none⟩=some (.slice ra n (c-1)):=(hs.cell (p:=⟨rb,0,none⟩) rl13).trans r13;have y3:w14.cell? ⟨pb,2,none⟩=some (.int .i64 pl):=(hh.out.keep hs).cell 2;have y4:pb<w14.heap.size:=(hh.out.keep hs).box.lt;go_wp2_with fail
      refine (Zae w14 y1 y2 y3 (Nat.lt_of_lt_of_le ql13 hs.size) (Nat.lt_of_lt_of_le rl13 hs.size) y4).mono ?_;rintro e15 w15 ⟨rfl,hF⟩;obtain rfl:w14=w15:=hF.symm;rw[hG.out];go_wp2
      exact⟨_,rfl,rfl,.refl _⟩
   ·have hG:=zH ((pl==0&&(n:Int)==1)=false) (by simp[hR]);have HZ:=zH (ZD ⟨params,bl.map FBlk.d,pl⟩ (f::r)=.error 70) (by rw[hA.out,if_neg];exact fun h=>hR h.1);clear hR;refine Zb 5 rfl (by decide +kernel) (by decide +kernel) (by decide +kernel) (by decide)
     [Is (.bool true),Is (.bool true),Is (.pointer (some ⟨pb,0,none⟩)),Is (.func (.func 71) #[] #[.pointer (some ⟨qb,0,none⟩),.pointer (some ⟨rb,0,none⟩)]),Is (.bool false)]
     (by repeat (first | exact trivial | refine⟨Is.stable _,?_⟩ | refine⟨Any.stable,?_⟩)) ⟨?_,?_,?_,?_,?_,trivial⟩ ?_
    rotate_right
    ·intro vs w14 hs hk;simp only[List.take,List.drop,putAll,Act.put,Zc,Zd,Is,List.setIfInBounds_toArray,List.set_cons_zero,List.set_cons_succ,Nat.reduceAdd]at hk ⊢;try simp only[hk]
     have hc:Turn (fun q=>q=pb) w13 w14:=Turn.since hs;have q14:w14.cell? ⟨qb,0,none⟩=some (.pointer (some ⟨pb,0,none⟩)):=(hc.cell (p:=⟨qb,0,none⟩) ql13 hi).trans q13;have r14:w14.cell? ⟨rb,0,none⟩=some (.slice ra n (c-1)):=(hc.cell (p:=⟨rb,0,none⟩) rl13 hy).trans r13;have ql14:=Nat.lt_of_lt_of_le ql13 hc.size;have rl14:=Nat.lt_of_lt_of_le rl13 hc.size;have hv:=zH (TPa w0 pb tv params pl 0 bv bl w14) (hh.out.keep hs);have hu:=hid (hM.out.trans hc);have hC:=hid (RowIn.turn hO.out hc (fun q hq hr=>(hg.out q hq).1 (.inl hr)) (fun _ _ h=>h):StrsIn w14 (.slice ra n (c-1)) r)
     have hf:=zH (Stays (PaOwn pb bv bl) w14 (.slice ra n (c-1))) (hg.out.mono (fun q hq=>.inl hq) hc.size);clear q13 r13 ql13 rl13;clear hc hs hk;go_wp2_with fail
     refine (Zw w14 hv.out false 70 (by decide)).mono ?_;rintro e15 w15 ⟨rfl,hp,ht⟩;have HF:=hid (HE.out 70 w15 HZ.out (by decide) hp (hu.out.trans ht));clear hp ht q14 r14 ql14 rl14;go_wp2
     go_end0
     exact HF.out
    all_goals
     intro vs w14 hs hk _;simp only[List.take,putAll,Act.put,Zh,Zd,Is,List.setIfInBounds_toArray,List.set_cons_zero,List.set_cons_succ,Nat.reduceAdd]at hk ⊢;try simp only[hk]
    iterate 2
     ·go_wp2
      exact⟨_,rfl,rfl,.refl _⟩
    ·have z1:w14.cell? ⟨qb,0,none⟩=some (.pointer (some ⟨pb,0,none⟩)):=(hs.cell (p:=⟨qb,0,none⟩) ql13).trans q13;have z2:qb<w14.heap.size:=Nat.lt_of_lt_of_le ql13 hs.size;go_wp2
     exact⟨_,rfl,rfl,.refl _⟩
    ·go_wp2
     exact⟨_,rfl,rfl,.refl _⟩
    ·have y1:w14.cell? ⟨qb,0,none⟩=some (.pointer (some ⟨pb,0,none⟩)):=(hs.cell (p:=⟨qb,0,none⟩) ql13).trans q13;have y2:w14.cell? ⟨rb,0,none⟩=some (.slice ra n (c-1)):=(hs.cell (p:=⟨rb,0,none⟩) rl13).trans r13;have y3:w14.cell? ⟨pb,2,none⟩=some (.int .i64 pl):=(hh.out.keep hs).cell 2;have y4:pb<w14.heap.size:=(hh.out.keep hs).box.lt;go_wp2_with fail
     refine (Zae w14 y1 y2 y3 (Nat.lt_of_lt_of_le ql13 hs.size) (Nat.lt_of_lt_of_le rl13 hs.size) y4).mono ?_;rintro e15 w15 ⟨rfl,hF⟩;obtain rfl:w14=w15:=hF.symm;rw[hG.out];go_wp2
     exact⟨_,rfl,rfl,.refl _⟩
  ·have q1:(f.toList==[102,117,110,99])=false:=WO g1;have q2:(f.toList==[98,108,111,99,107])=true:=ZbM g2;have hA:=hid (Qi (s:=⟨params,bl.map FBlk.d,pl⟩) (r:=r) g1 g2);clear g1 g2;by_cases hR:pl=1
   ·by_cases h0:n=1
    ·subst hR;subst h0;have hG:=zH (((1:Int)==1&&((1:Nat):Int)==1)=true) rfl;obtain⟨x0,rfl⟩:=JA Hh.out;refine Zb 5 rfl (by decide +kernel) (by decide +kernel) (by decide +kernel) (by decide)
      [Is (.bool true),Is (.bool true),Is (.pointer (some ⟨pb,0,none⟩)),Is (.func (.func 72) #[] #[.pointer (some ⟨qb,0,none⟩),.pointer (some ⟨rb,0,none⟩)]),Is (.bool true)]
      (by repeat (first | exact trivial | refine⟨Is.stable _,?_⟩ | refine⟨Any.stable,?_⟩)) ⟨?_,?_,?_,?_,?_,trivial⟩ ?_
     rotate_right
     ·intro vs w14 hs hk;simp only[List.take,List.drop,putAll,Act.put,Zc,Zd,Is,List.setIfInBounds_toArray,List.set_cons_zero,List.set_cons_succ,Nat.reduceAdd]at hk ⊢;try simp only[hk]
      have hc:Turn (fun q=>q=pb) w13 w14:=Turn.since hs;have q14:w14.cell? ⟨qb,0,none⟩=some (.pointer (some ⟨pb,0,none⟩)):=(hc.cell (p:=⟨qb,0,none⟩) ql13 hi).trans q13;have r14:w14.cell? ⟨rb,0,none⟩=some (.slice ra 1 (c-1)):=(hc.cell (p:=⟨rb,0,none⟩) rl13 hy).trans r13;have ql14:=Nat.lt_of_lt_of_le ql13 hc.size;have rl14:=Nat.lt_of_lt_of_le rl13 hc.size;have hv:=zH (TPa w0 pb tv params 1 0 bv bl w14) (hh.out.keep hs);have hu:=hid (hM.out.trans hc);have hC:=hid (RowIn.turn hO.out hc (fun q hq hr=>(hg.out q hq).1 (.inl hr)) (fun _ _ h=>h):StrsIn w14 (.slice ra 1 (c-1)) [x0])
      have hf:=zH (Stays (PaOwn pb bv bl) w14 (.slice ra 1 (c-1))) (hg.out.mono (fun q hq=>.inl hq) hc.size);clear q13 r13 ql13 rl13;clear hc hs hk;go_wp2_with fail
      refine (Zw w14 hv.out true 70 (by decide)).mono ?_;rintro e15 w15 ⟨rfl,hp,ht⟩;have q15:w15.cell? ⟨qb,0,none⟩=some (.pointer (some ⟨pb,0,none⟩)):=(ht.cell (p:=⟨qb,0,none⟩) ql14 hi).trans q14;have r15:w15.cell? ⟨rb,0,none⟩=some (.slice ra 1 (c-1)):=(ht.cell (p:=⟨rb,0,none⟩) rl14 hy).trans r14;have ql15:=Nat.lt_of_lt_of_le ql14 ht.size;have rl15:=Nat.lt_of_lt_of_le rl14 ht.size;have hz:=zH (TPa w0 pb tv params 1 0 bv bl w15) hp;have hK:=hid (hu.out.trans ht);have hN:=hid (RowIn.turn hC.out ht (fun q hq hr=>(hf.out q hq).1 (.inl hr)) (fun _ _ h=>h):StrsIn w15 (.slice ra 1 (c-1)) [x0])
      have hm:=zH (Stays (PaOwn pb bv bl) w15 (.slice ra 1 (c-1))) (hf.out.mono (fun q hq=>.inl hq) ht.size);clear q14 r14 ql14 rl14;clear hp ht;go_wp2_with fail
      refine Zb 9 rfl (by decide +kernel) (by decide +kernel) (by decide +kernel) (by decide)
       [Is (.bool true),Is (.bool false),Is (.bool false),Any,Any,Any,Any,Any,Any]
       (by repeat (first | exact trivial | refine⟨Is.stable _,?_⟩ | refine⟨Any.stable,?_⟩)) ⟨?_,?_,?_,?_,?_,?_,?_,?_,?_,trivial⟩ ?_
      rotate_right
      ·intro vs w16 hs hk;simp only[List.take,List.drop,putAll,Act.put,Zc,Zd,Is,Any,List.setIfInBounds_toArray,List.set_cons_zero,List.set_cons_succ,Nat.reduceAdd]at hk ⊢;try simp only[hk]
       have he:Turn (fun q=>q=pb) w15 w16:=Turn.since hs;have q16:w16.cell? ⟨qb,0,none⟩=some (.pointer (some ⟨pb,0,none⟩)):=(he.cell (p:=⟨qb,0,none⟩) ql15 hi).trans q15;have r16:w16.cell? ⟨rb,0,none⟩=some (.slice ra 1 (c-1)):=(he.cell (p:=⟨rb,0,none⟩) rl15 hy).trans r15;have ql16:=Nat.lt_of_lt_of_le ql15 he.size;have rl16:=Nat.lt_of_lt_of_le rl15 he.size;have hP:=zH (TPa w0 pb tv params 1 0 bv bl w16) (hz.out.keep hs);have hJ:=hid (hK.out.trans he);have hQ:=hid (RowIn.turn hN.out he (fun q hq hr=>(hm.out q hq).1 (.inl hr)) (fun _ _ h=>h):StrsIn w16 (.slice ra 1 (c-1)) [x0])
       have hB:=zH (Stays (PaOwn pb bv bl) w16 (.slice ra 1 (c-1))) (hm.out.mono (fun q hq=>.inl hq) he.size);clear q15 r15 ql15 rl15;clear he hs hk;go_wp2_with fail
       refine (Wj w16 hP.out hY.out _ [x0] hQ.out (hB.out.mono (fun q hq=>.inl (.inl hq)) (Nat.le_refl _)) (by simp)).mono ?_
       rintro e5 w17 ⟨rv,rfl,hS,hI,hD⟩;obtain⟨g,gc,rfl,HM,HL,HK,H7,Hs⟩:=WM (show w17.ownsRow _ _ 1 _ 1 [.int .i64 (ZS x0)] from hS);obtain⟨d,hd⟩:∃ d,ZS x0=d:=⟨_,rfl⟩
       rw[hd]at Hs;have HD:=hid hd;have q17:w17.cell? ⟨qb,0,none⟩=some (.pointer (some ⟨pb,0,none⟩)):=(hD.cell (p:=⟨qb,0,none⟩) ql16 hi).trans q16;have r17:w17.cell? ⟨rb,0,none⟩=some (.slice ra 1 (c-1)):=(hD.cell (p:=⟨rb,0,none⟩) rl16 hy).trans r16;have ql17:=Nat.lt_of_lt_of_le ql16 hD.size;have rl17:=Nat.lt_of_lt_of_le rl16 hD.size;have Hg:=zH (TPa w0 pb tv params 1 (numsE 0 [x0]) bv bl w17) hI;have Hc:=hid (hJ.out.trans hD);have He:=hid (RowIn.turn hQ.out hD (fun q hq hr=>(hB.out q hq).1 (.inl hr)) (fun _ _ h=>h):StrsIn w17 (.slice ra 1 (c-1)) [x0])
       have hW:=zH (Stays (PaOwn pb bv bl) w17 (.slice ra 1 (c-1))) (hB.out.mono (fun q hq=>.inl hq) hD.size);clear q16 r16 ql16 rl16;obtain⟨ba,bc,tF⟩:=Ze hI.row;obtain⟨bn,HO⟩:∃ bn,bl.length=bn:=⟨_,rfl⟩
       rw[HO]at tF;subst tF;have HT:=hid HO;rw[HO]at Te;have Tt:=zH (w17.cell? ⟨pb,1,none⟩=some (.slice ba bn bc)) (hI.cell 1);have tM:=hid hI.box.lt;clear hI hD hS hd HO;go_wp2_with fail
       refine Zb 9 rfl (by decide +kernel) (by decide +kernel) (by decide +kernel) (by decide)
        [Is (.pointer (some ⟨pb,0,none⟩)),Is (.int .i64 d),Is (.pointer (some ⟨pb,0,none⟩)),Is (.pointer (some ⟨pb,0,none⟩)),Is (.pointer (some ⟨pb,0,none⟩)),Is (.pointer (some ⟨pb,1,none⟩)),Is (.slice ba bn bc),Is (.int .i64 bn),Is (.bool (d==bn))]
        (by repeat (first | exact trivial | refine⟨Is.stable _,?_⟩ | refine⟨Any.stable,?_⟩)) ⟨?_,?_,?_,?_,?_,?_,?_,?_,?_,trivial⟩ ?_
       rotate_right
       ·intro vs w18 hs hk;simp only[List.take,List.drop,putAll,Act.put,Zc,Zd,Is,List.setIfInBounds_toArray,List.set_cons_zero,List.set_cons_succ,Nat.reduceAdd]at hk ⊢;try simp only[hk]
        have hT:Turn (fun q=>q=pb) w17 w18:=Turn.since hs;have q18:w18.cell? ⟨qb,0,none⟩=some (.pointer (some ⟨pb,0,none⟩)):=(hT.cell (p:=⟨qb,0,none⟩) ql17 hi).trans q17;have r18:w18.cell? ⟨rb,0,none⟩=some (.slice ra 1 (c-1)):=(hT.cell (p:=⟨rb,0,none⟩) rl17 hy).trans r17;have ql18:=Nat.lt_of_lt_of_le ql17 hT.size;have rl18:=Nat.lt_of_lt_of_le rl17 hT.size;have tY:=zH (TPa w0 pb tv params 1 (numsE 0 [x0]) (.slice ba bn bc) bl w18) (Hg.out.keep hs);have tW:=hid (Hc.out.trans hT);have tX:=hid (RowIn.turn He.out hT (fun q hq hr=>(hW.out q hq).1 (.inl hr)) (fun _ _ h=>h):StrsIn w18 (.slice ra 1 (c-1)) [x0])
        have HQ:=zH (Stays (PaOwn pb (.slice ba bn bc) bl) w18 (.slice ra 1 (c-1))) (hW.out.mono (fun q hq=>.inl hq) hT.size);clear q17 r17 ql17 rl17;clear hT hs hk;go_wp2_with fail
        refine (Zw w18 tY.out _ 70 (by decide)).mono ?_;rintro e7 w19 ⟨rfl,h8,h7⟩;obtain⟨E,hE⟩:∃ E,Yj (numsE 0 [x0]) (!(d==(bn:Int))) 70=E:=⟨_,rfl⟩
        rw[hE]at h8 ⊢;have Ts:=hid hE;have q19:w19.cell? ⟨qb,0,none⟩=some (.pointer (some ⟨pb,0,none⟩)):=(h7.cell (p:=⟨qb,0,none⟩) ql18 hi).trans q18;have r19:w19.cell? ⟨rb,0,none⟩=some (.slice ra 1 (c-1)):=(h7.cell (p:=⟨rb,0,none⟩) rl18 hy).trans r18;have ql19:=Nat.lt_of_lt_of_le ql18 h7.size;have rl19:=Nat.lt_of_lt_of_le rl18 h7.size;have td:=zH (TPa w0 pb tv params 1 E (.slice ba bn bc) bl w19) h8;have tV:=hid (tW.out.trans h7);have Tz:=hid (RowIn.turn tX.out h7 (fun q hq hr=>(HQ.out q hq).1 (.inl hr)) (fun _ _ h=>h):StrsIn w19 (.slice ra 1 (c-1)) [x0])
        have Tv:=zH (Stays (PaOwn pb (.slice ba bn bc) bl) w19 (.slice ra 1 (c-1))) (HQ.out.mono (fun q hq=>.inl hq) h7.size);clear q18 r18 ql18 rl18;have t0:=zH (w19.cell? ⟨pb,1,none⟩=some (.slice ba bn bc)) (h8.cell 1);have tf:=hid h8.box.lt;have tH:=hid h8.row;have HS:=zH (¬ (Value.slice ba bn bc).ownBlock=some pb∧¬ (Value.slice ba bn bc).ownBlock=some qb) ⟨Zk h8.row h8.box (by decide),fun e=>by have:=Hm.out qb (.inr (.inl e));omega⟩;clear h8 h7 hE;go_wp2_with fail
        refine Z4 9 8 [8] [0,0,0,0,0,0,0,0,0] [1,0,0,0,0,0,0,0,0] [0,0,0,0,0,0,0,0,1] (fun q=>(Value.slice ba bn bc).ownBlock=some q) (fun p w20=>p=0→Since w19 w20) rfl (by decide +kernel) (by decide +kernel) (by decide +kernel) (by decide) (by decide +kernel)
         [Is (.pointer (some ⟨pb,0,none⟩)),Is (.pointer (some ⟨pb,0,none⟩)),Is (.pointer (some ⟨pb,0,none⟩)),Is (.pointer (some ⟨pb,0,none⟩)),Is (.pointer (some ⟨pb,1,none⟩)),Is (.slice ba bn bc),Is (.agg #[.slice none 0 0,.slice none 0 0,.int .i64 0,.slice none 0 0,.slice none 0 0,.int .i32 0]),ZW fbcells 57 (fun q=>(Value.slice ba bn bc).ownBlock=some q) Yg,Yb fbcells 6 57 w19 (.slice ba bn bc) (bl++[Yg])]
         (by repeat (first | exact trivial | refine⟨fun h=>absurd rfl h,?_⟩ | refine⟨fun _=>Is.stableT _ _,?_⟩ | refine⟨fun _=>Any.stableT _,?_⟩ | refine⟨fun _=>ZW.stableT _ _ _ _,?_⟩)) (by repeat (first | exact trivial | refine⟨Is.stable _,?_⟩ | refine⟨Any.stable,?_⟩ | refine⟨ZW.stable _ _ _ _,?_⟩ | refine⟨Yb.stable _ _ _ _ _ _,?_⟩)) (fun _=>(Since.refl w19).drew) ⟨?_,?_,?_,?_,?_,?_,?_,?_,?_,trivial⟩ ?_
        rotate_right
        ·intro vs w20 ht hH hk;simp only[List.take,List.drop,putAll,Act.put,Zc,Zd,Is,List.setIfInBounds_toArray,List.set_cons_zero,List.set_cons_succ,Nat.reduceAdd]at hk ⊢;try simp only[hk]
         obtain⟨wa,tn,tk,Ha,h5⟩:Yb fbcells 6 57 w19 (.slice ba bn bc) (bl++[Yg]) (vs 8) w20:=by exact hk.2.2.2.2.2.2.2.2.1
         generalize vs 8=nw at *;obtain⟨va,vc,tj⟩:=Ze h5;rw[List.length_append,HT.out]at tj;subst tj;have Hu:=td.out.box.turn ht HS.out.1;have j1:w20.cell? ⟨pb,1,none⟩=some (.slice ba bn bc):=Hu.cell 1;have j2:w20.cell? ⟨pb,2,none⟩=some (.int .i64 1):=Hu.cell 2;have jl:=Hu.lt;have jf:=Hu.frozen;have q20:w20.cell? ⟨qb,0,none⟩=some (.pointer (some ⟨pb,0,none⟩)):=(ht.cell ql19 HS.out.2).trans q19;have ql20:=Nat.lt_of_lt_of_le ql19 ht.size;have t1:=hid (((td.out.keep tn).addBlock h5 tk Ha).put 2 (.int .i64 2) (params':=params) (pl':=2) (e':=E) (tl':=[tv]) rfl);have Tf:=hid ((tV.out.mono fun q _ hq=>.inl hq:Turn (PaOwn pb (.slice ba bn bc) bl) w w19).later ht fun q hq=>.inl (.inr (.inl hq)))
         clear hk hH ht tn tk Ha Hu h5 q19 r19 ql19 rl19;go_wp2
         go_end0
         refine⟨rfl,params,2,E,_,_,t1.out,(Tf.out.setCell (p:=⟨pb,1,none⟩) (.inl rfl) _).setCell (p:=⟨pb,2,none⟩) (.inl rfl) _,?_⟩;rw[hA.out,if_pos (by simp),←Ts.out];have t5:(numsW [x0]).getD 0 0=d:=by rw[←HD.out];rfl
         rw[t5,List.length_map,HT.out]
         cases H6:ZZ [x0]
         ·rw[if_neg (by simp)];have:numsE 0 [x0]=71:=by unfold numsE;rw[H6];rfl
          rw[this];exact⟨by unfold Yj;rw[if_neg (by simp)],by decide⟩
         ·rw[if_pos rfl];have:numsE 0 [x0]=0:=by unfold numsE;rw[H6];rfl
          rw[this];by_cases HN:d=bn
          ·rw[if_pos HN];exact⟨by unfold Yj;rw[if_neg (by simp[HN])],by simp[FBlk.d,Yg,zeroBlk,Zt.d]⟩
          ·rw[if_neg HN];exact⟨by unfold Yj;rw[if_pos ⟨by simpa using HN,rfl⟩],by decide⟩
        all_goals
         intro p vs w20 Tb Td ht hH hk;simp only[List.take,putAll,Act.put,Zh,Zd,Is,List.setIfInBounds_toArray,List.set_cons_zero,List.set_cons_succ,Nat.reduceAdd]at hk ⊢;try simp only[hk]
        iterate 2
         ·have z1:w20.cell? ⟨qb,0,none⟩=some (.pointer (some ⟨pb,0,none⟩)):=(ht.cell ql19 HS.out.2).trans q19;have z2:qb<w20.heap.size:=Nat.lt_of_lt_of_le ql19 ht.size;go_wp2
          exact⟨_,rfl,rfl,Since.refl _,hH⟩
        iterate 3
         ·go_wp2
          exact⟨_,rfl,rfl,Since.refl _,hH⟩
        ·have z1:w20.cell? ⟨pb,1,none⟩=some (.slice ba bn bc):=(ht.cell tf.out HS.out.1).trans t0.out;have z2:pb<w20.heap.size:=Nat.lt_of_lt_of_le tf.out ht.size;go_wp2
         exact⟨_,rfl,rfl,Since.refl _,hH⟩
        ·go_wp2
         exact⟨_,rfl,rfl,Since.refl _,hH⟩
        ·have t6:¬ (Value.slice ba bn bc).ownBlock=some w20.heap.size:=fun e=>by have:=(World.ownsRow.lt tH.out _ e).2;have:=ht.size;omega
         have tr:=(Since.refl w20).alloc (.cells (fbcells Yg).toArray 57);have HP:=hid (fun (e:p=0)=>(hH e).trans tr)
         clear hH;go_wp2
         exact⟨_,rfl,⟨_,rfl,HeapIs.new _ _ _,t6⟩,tr,HP.out⟩
        ·obtain rfl:p=0:=by omega
         have H0:=hH rfl;obtain⟨b1,ta,H9,tR⟩:ZW fbcells 57 (fun q=>(Value.slice ba bn bc).ownBlock=some q) Yg (vs 7) w20:=hk.2.1
         simp only[ta];have hS:=OwnRow.keep tH.out H0;have Tj:=hid H0;clear hk hH H0 ta;refine Zf fbcells 6 Zs (by decide) rfl _ _ 22 rfl 57 (.agg #[.slice none 0 0,.slice none 0 0,.int .i64 0,.slice none 0 0,.slice none 0 0,.int .i32 0]) 112 Tryz.underlying22 (by kernel_rfl) rfl (.slice ba bn bc) bl Yg b1 1 _ rfl rfl hS H9 (by decide) (by rw[HT.out];unfold maxLen;omega) (by rw[HT.out];omega) (Nat.zero_le _) ?_;intro v9 w21 h5 HV Ha;have HA:=zH (Yb fbcells 6 57 w19 (.slice ba bn bc) (bl++[Yg]) v9 w21) ⟨w20,Tj.out,HV,Ha,h5⟩;have Th:=hid HV;clear h5 HV Ha hS H9 tR;go_wp2
         exact⟨_,rfl,HA.out,Th.out,fun e=>absurd e (by decide)⟩
       all_goals
        intro vs w18 hs hk _;simp only[List.take,putAll,Act.put,Zh,Zd,Is,List.setIfInBounds_toArray,List.set_cons_zero,List.set_cons_succ,Nat.reduceAdd]at hk ⊢;try simp only[hk]
       iterate 2
        ·have z1:w18.cell? ⟨qb,0,none⟩=some (.pointer (some ⟨pb,0,none⟩)):=(hs.cell (p:=⟨qb,0,none⟩) ql17).trans q17;have z2:qb<w18.heap.size:=Nat.lt_of_lt_of_le ql17 hs.size;go_wp2
         exact⟨_,rfl,rfl,.refl _⟩
        ·go_wp2
         exact⟨_,rfl,rfl,.refl _⟩
       iterate 2
        ·go_wp2
         exact⟨_,rfl,rfl,.refl _⟩
       ·have z1:w18.cell? ⟨pb,1,none⟩=some (.slice ba bn bc):=(hs.cell (p:=⟨pb,1,none⟩) tM.out).trans Tt.out;have z2:pb<w18.heap.size:=Nat.lt_of_lt_of_le tM.out hs.size;go_wp2
        exact⟨_,rfl,rfl,.refl _⟩
       iterate 2
        ·go_wp2
         exact⟨_,rfl,rfl,.refl _⟩
      all_goals
       intro vs w16 hs hk _;simp only[List.take,putAll,Act.put,Zh,Zd,Is,Any,List.setIfInBounds_toArray,List.set_cons_zero,List.set_cons_succ,Nat.reduceAdd]at hk ⊢;try simp only[hk]
      iterate 3
       ·go_wp2
        exact⟨_,rfl,rfl,.refl _⟩
      ·go_wp2
       exact⟨_,(Zy _ 68).symm,trivial,.refl _⟩
      ·go_wp2
       exact⟨_,(Zy _ 69).symm,trivial,.refl _⟩
      ·go_wp2
       exact⟨_,(Zy _ 70).symm,trivial,.refl _⟩
      ·go_wp2
       exact⟨_,(Zy _ 71).symm,trivial,.refl _⟩
      ·go_wp2
       exact⟨_,(Zy _ 72).symm,trivial,.refl _⟩
      ·go_wp2
       exact⟨_,(Zy _ 73).symm,trivial,.refl _⟩
     all_goals
      intro vs w14 hs hk _;simp only[List.take,putAll,Act.put,Zh,Zd,Is,List.setIfInBounds_toArray,List.set_cons_zero,List.set_cons_succ,Nat.reduceAdd]at hk ⊢;try simp only[hk]
     iterate 2
      ·go_wp2
       exact⟨_,rfl,rfl,.refl _⟩
     ·have z1:w14.cell? ⟨qb,0,none⟩=some (.pointer (some ⟨pb,0,none⟩)):=(hs.cell (p:=⟨qb,0,none⟩) ql13).trans q13;have z2:qb<w14.heap.size:=Nat.lt_of_lt_of_le ql13 hs.size;go_wp2
      exact⟨_,rfl,rfl,.refl _⟩
     ·go_wp2
      exact⟨_,rfl,rfl,.refl _⟩
     ·have y1:w14.cell? ⟨qb,0,none⟩=some (.pointer (some ⟨pb,0,none⟩)):=(hs.cell (p:=⟨qb,0,none⟩) ql13).trans q13;have y2:w14.cell? ⟨rb,0,none⟩=some (.slice ra 1 (c-1)):=(hs.cell (p:=⟨rb,0,none⟩) rl13).trans r13;have y3:w14.cell? ⟨pb,2,none⟩=some (.int .i64 1):=(hh.out.keep hs).cell 2;have y4:pb<w14.heap.size:=(hh.out.keep hs).box.lt;go_wp2_with fail
      refine (Zad w14 y1 y2 y3 (Nat.lt_of_lt_of_le ql13 hs.size) (Nat.lt_of_lt_of_le rl13 hs.size) y4).mono ?_;rintro e15 w15 ⟨rfl,hF⟩;obtain rfl:w14=w15:=hF.symm;rw[hG.out];go_wp2
      exact⟨_,rfl,rfl,.refl _⟩
    ·have hG:=zH ((pl==1&&(n:Int)==1)=false) (by simp;omega);have HZ:=zH (ZD ⟨params,bl.map FBlk.d,pl⟩ (f::r)=.error 70) (by rw[hA.out,if_neg];rw[Hh.out];exact fun h=>h0 h.2);clear hR h0;refine Zb 5 rfl (by decide +kernel) (by decide +kernel) (by decide +kernel) (by decide)
      [Is (.bool true),Is (.bool true),Is (.pointer (some ⟨pb,0,none⟩)),Is (.func (.func 72) #[] #[.pointer (some ⟨qb,0,none⟩),.pointer (some ⟨rb,0,none⟩)]),Is (.bool false)]
      (by repeat (first | exact trivial | refine⟨Is.stable _,?_⟩ | refine⟨Any.stable,?_⟩)) ⟨?_,?_,?_,?_,?_,trivial⟩ ?_
     rotate_right
     ·intro vs w14 hs hk;simp only[List.take,List.drop,putAll,Act.put,Zc,Zd,Is,List.setIfInBounds_toArray,List.set_cons_zero,List.set_cons_succ,Nat.reduceAdd]at hk ⊢;try simp only[hk]
      have hc:Turn (fun q=>q=pb) w13 w14:=Turn.since hs;have q14:w14.cell? ⟨qb,0,none⟩=some (.pointer (some ⟨pb,0,none⟩)):=(hc.cell (p:=⟨qb,0,none⟩) ql13 hi).trans q13;have r14:w14.cell? ⟨rb,0,none⟩=some (.slice ra n (c-1)):=(hc.cell (p:=⟨rb,0,none⟩) rl13 hy).trans r13;have ql14:=Nat.lt_of_lt_of_le ql13 hc.size;have rl14:=Nat.lt_of_lt_of_le rl13 hc.size;have hv:=zH (TPa w0 pb tv params pl 0 bv bl w14) (hh.out.keep hs);have hu:=hid (hM.out.trans hc);have hC:=hid (RowIn.turn hO.out hc (fun q hq hr=>(hg.out q hq).1 (.inl hr)) (fun _ _ h=>h):StrsIn w14 (.slice ra n (c-1)) r)
      have hf:=zH (Stays (PaOwn pb bv bl) w14 (.slice ra n (c-1))) (hg.out.mono (fun q hq=>.inl hq) hc.size);clear q13 r13 ql13 rl13;clear hc hs hk;go_wp2_with fail
      refine (Zw w14 hv.out false 70 (by decide)).mono ?_;rintro e15 w15 ⟨rfl,hp,ht⟩;have HF:=hid (HE.out 70 w15 HZ.out (by decide) hp (hu.out.trans ht));clear hp ht q14 r14 ql14 rl14;go_wp2
      go_end0
      exact HF.out
     all_goals
      intro vs w14 hs hk _;simp only[List.take,putAll,Act.put,Zh,Zd,Is,List.setIfInBounds_toArray,List.set_cons_zero,List.set_cons_succ,Nat.reduceAdd]at hk ⊢;try simp only[hk]
     iterate 2
      ·go_wp2
       exact⟨_,rfl,rfl,.refl _⟩
     ·have z1:w14.cell? ⟨qb,0,none⟩=some (.pointer (some ⟨pb,0,none⟩)):=(hs.cell (p:=⟨qb,0,none⟩) ql13).trans q13;have z2:qb<w14.heap.size:=Nat.lt_of_lt_of_le ql13 hs.size;go_wp2
      exact⟨_,rfl,rfl,.refl _⟩
     ·go_wp2
      exact⟨_,rfl,rfl,.refl _⟩
     ·have y1:w14.cell? ⟨qb,0,none⟩=some (.pointer (some ⟨pb,0,none⟩)):=(hs.cell (p:=⟨qb,0,none⟩) ql13).trans q13;have y2:w14.cell? ⟨rb,0,none⟩=some (.slice ra n (c-1)):=(hs.cell (p:=⟨rb,0,none⟩) rl13).trans r13;have y3:w14.cell? ⟨pb,2,none⟩=some (.int .i64 pl):=(hh.out.keep hs).cell 2;have y4:pb<w14.heap.size:=(hh.out.keep hs).box.lt;go_wp2_with fail
      refine (Zad w14 y1 y2 y3 (Nat.lt_of_lt_of_le ql13 hs.size) (Nat.lt_of_lt_of_le rl13 hs.size) y4).mono ?_;rintro e15 w15 ⟨rfl,hF⟩;obtain rfl:w14=w15:=hF.symm;rw[hG.out];go_wp2
      exact⟨_,rfl,rfl,.refl _⟩
   ·have hG:=zH ((pl==1&&(n:Int)==1)=false) (by simp[hR]);have HZ:=zH (ZD ⟨params,bl.map FBlk.d,pl⟩ (f::r)=.error 70) (by rw[hA.out,if_neg];exact fun h=>hR h.1);clear hR;refine Zb 5 rfl (by decide +kernel) (by decide +kernel) (by decide +kernel) (by decide)
     [Is (.bool true),Is (.bool true),Is (.pointer (some ⟨pb,0,none⟩)),Is (.func (.func 72) #[] #[.pointer (some ⟨qb,0,none⟩),.pointer (some ⟨rb,0,none⟩)]),Is (.bool false)]
     (by repeat (first | exact trivial | refine⟨Is.stable _,?_⟩ | refine⟨Any.stable,?_⟩)) ⟨?_,?_,?_,?_,?_,trivial⟩ ?_
    rotate_right
    ·intro vs w14 hs hk;simp only[List.take,List.drop,putAll,Act.put,Zc,Zd,Is,List.setIfInBounds_toArray,List.set_cons_zero,List.set_cons_succ,Nat.reduceAdd]at hk ⊢;try simp only[hk]
     have hc:Turn (fun q=>q=pb) w13 w14:=Turn.since hs;have q14:w14.cell? ⟨qb,0,none⟩=some (.pointer (some ⟨pb,0,none⟩)):=(hc.cell (p:=⟨qb,0,none⟩) ql13 hi).trans q13;have r14:w14.cell? ⟨rb,0,none⟩=some (.slice ra n (c-1)):=(hc.cell (p:=⟨rb,0,none⟩) rl13 hy).trans r13;have ql14:=Nat.lt_of_lt_of_le ql13 hc.size;have rl14:=Nat.lt_of_lt_of_le rl13 hc.size;have hv:=zH (TPa w0 pb tv params pl 0 bv bl w14) (hh.out.keep hs);have hu:=hid (hM.out.trans hc);have hC:=hid (RowIn.turn hO.out hc (fun q hq hr=>(hg.out q hq).1 (.inl hr)) (fun _ _ h=>h):StrsIn w14 (.slice ra n (c-1)) r)
     have hf:=zH (Stays (PaOwn pb bv bl) w14 (.slice ra n (c-1))) (hg.out.mono (fun q hq=>.inl hq) hc.size);clear q13 r13 ql13 rl13;clear hc hs hk;go_wp2_with fail
     refine (Zw w14 hv.out false 70 (by decide)).mono ?_;rintro e15 w15 ⟨rfl,hp,ht⟩;have HF:=hid (HE.out 70 w15 HZ.out (by decide) hp (hu.out.trans ht));clear hp ht q14 r14 ql14 rl14;go_wp2
     go_end0
     exact HF.out
    all_goals
     intro vs w14 hs hk _;simp only[List.take,putAll,Act.put,Zh,Zd,Is,List.setIfInBounds_toArray,List.set_cons_zero,List.set_cons_succ,Nat.reduceAdd]at hk ⊢;try simp only[hk]
    iterate 2
     ·go_wp2
      exact⟨_,rfl,rfl,.refl _⟩
    ·have z1:w14.cell? ⟨qb,0,none⟩=some (.pointer (some ⟨pb,0,none⟩)):=(hs.cell (p:=⟨qb,0,none⟩) ql13).trans q13;have z2:qb<w14.heap.size:=Nat.lt_of_lt_of_le ql13 hs.size;go_wp2
     exact⟨_,rfl,rfl,.refl _⟩
    ·go_wp2
     exact⟨_,rfl,rfl,.refl _⟩
    ·have y1:w14.cell? ⟨qb,0,none⟩=some (.pointer (some ⟨pb,0,none⟩)):=(hs.cell (p:=⟨qb,0,none⟩) ql13).trans q13;have y2:w14.cell? ⟨rb,0,none⟩=some (.slice ra n (c-1)):=(hs.cell (p:=⟨rb,0,none⟩) rl13).trans r13;have y3:w14.cell? ⟨pb,2,none⟩=some (.int .i64 pl):=(hh.out.keep hs).cell 2;have y4:pb<w14.heap.size:=(hh.out.keep hs).box.lt;go_wp2_with fail
     refine (Zad w14 y1 y2 y3 (Nat.lt_of_lt_of_le ql13 hs.size) (Nat.lt_of_lt_of_le rl13 hs.size) y4).mono ?_;rintro e15 w15 ⟨rfl,hF⟩;obtain rfl:w14=w15:=hF.symm;rw[hG.out];go_wp2
     exact⟨_,rfl,rfl,.refl _⟩
  ·have q1:(f.toList==[102,117,110,99])=false:=WO g1;have q2:(f.toList==[98,108,111,99,107])=false:=VX g2;have q3:(f.toList==[112,104,105])=true:=Zek g3;have hA:=hid (show ZD ⟨params,bl.map FBlk.d,pl⟩ (f::r)=(if pl=2 then phiSt ⟨params,bl.map FBlk.d,pl⟩ r else .error 70) from by
    show (if f=Y8 then _ else if f=YW then _ else if f=Wv then (if pl=2 then phiSt _ r else .error 70) else _)=_
    rw[if_neg g1,if_neg g2,if_pos g3])
   clear g1 g2 g3;by_cases hR:pl=2
   ·subst hR;have hG:=zH (((2:Int)==2)=true) rfl;refine Zb 5 rfl (by decide +kernel) (by decide +kernel) (by decide +kernel) (by decide)
     [Is (.bool true),Is (.bool true),Is (.pointer (some ⟨pb,0,none⟩)),Is (.func (.func 73) #[] #[.pointer (some ⟨qb,0,none⟩)]),Is (.bool true)]
     (by repeat (first | exact trivial | refine⟨Is.stable _,?_⟩ | refine⟨Any.stable,?_⟩)) ⟨?_,?_,?_,?_,?_,trivial⟩ ?_
    rotate_right
    ·intro vs w14 hs hk;simp only[List.take,List.drop,putAll,Act.put,Zc,Zd,Is,List.setIfInBounds_toArray,List.set_cons_zero,List.set_cons_succ,Nat.reduceAdd]at hk ⊢;try simp only[hk]
     have hc:Turn (fun q=>q=pb) w13 w14:=Turn.since hs;have q14:w14.cell? ⟨qb,0,none⟩=some (.pointer (some ⟨pb,0,none⟩)):=(hc.cell (p:=⟨qb,0,none⟩) ql13 hi).trans q13;have r14:w14.cell? ⟨rb,0,none⟩=some (.slice ra n (c-1)):=(hc.cell (p:=⟨rb,0,none⟩) rl13 hy).trans r13;have ql14:=Nat.lt_of_lt_of_le ql13 hc.size;have rl14:=Nat.lt_of_lt_of_le rl13 hc.size;have hv:=zH (TPa w0 pb tv params 2 0 bv bl w14) (hh.out.keep hs);have hu:=hid (hM.out.trans hc);have hC:=hid (RowIn.turn hO.out hc (fun q hq hr=>(hg.out q hq).1 (.inl hr)) (fun _ _ h=>h):StrsIn w14 (.slice ra n (c-1)) r)
     have hf:=zH (Stays (PaOwn pb bv bl) w14 (.slice ra n (c-1))) (hg.out.mono (fun q hq=>.inl hq) hc.size);clear q13 r13 ql13 rl13;clear hc hs hk;go_wp2_with fail
     refine (Zw w14 hv.out true 70 (by decide)).mono ?_;rintro e15 w15 ⟨rfl,hp,ht⟩;have q15:w15.cell? ⟨qb,0,none⟩=some (.pointer (some ⟨pb,0,none⟩)):=(ht.cell (p:=⟨qb,0,none⟩) ql14 hi).trans q14;have r15:w15.cell? ⟨rb,0,none⟩=some (.slice ra n (c-1)):=(ht.cell (p:=⟨rb,0,none⟩) rl14 hy).trans r14;have ql15:=Nat.lt_of_lt_of_le ql14 ht.size;have rl15:=Nat.lt_of_lt_of_le rl14 ht.size;have hz:=zH (TPa w0 pb tv params 2 0 bv bl w15) hp;have hK:=hid (hu.out.trans ht);have hN:=hid (RowIn.turn hC.out ht (fun q hq hr=>(hf.out q hq).1 (.inl hr)) (fun _ _ h=>h):StrsIn w15 (.slice ra n (c-1)) r)
     have hm:=zH (Stays (PaOwn pb bv bl) w15 (.slice ra n (c-1))) (hf.out.mono (fun q hq=>.inl hq) ht.size);clear q14 r14 ql14 rl14;clear hp ht;go_wp2_with fail
     refine Zb 9 rfl (by decide +kernel) (by decide +kernel) (by decide +kernel) (by decide)
      [Is (.bool true),Is (.bool false),Is (.bool false),Any,Any,Any,Any,Any,Any]
      (by repeat (first | exact trivial | refine⟨Is.stable _,?_⟩ | refine⟨Any.stable,?_⟩)) ⟨?_,?_,?_,?_,?_,?_,?_,?_,?_,trivial⟩ ?_
     rotate_right
     ·intro vs w16 hs hk;simp only[List.take,List.drop,putAll,Act.put,Zc,Zd,Is,Any,List.setIfInBounds_toArray,List.set_cons_zero,List.set_cons_succ,Nat.reduceAdd]at hk ⊢;try simp only[hk]
      have he:Turn (fun q=>q=pb) w15 w16:=Turn.since hs;have q16:w16.cell? ⟨qb,0,none⟩=some (.pointer (some ⟨pb,0,none⟩)):=(he.cell (p:=⟨qb,0,none⟩) ql15 hi).trans q15;have r16:w16.cell? ⟨rb,0,none⟩=some (.slice ra n (c-1)):=(he.cell (p:=⟨rb,0,none⟩) rl15 hy).trans r15;have ql16:=Nat.lt_of_lt_of_le ql15 he.size;have rl16:=Nat.lt_of_lt_of_le rl15 he.size;have hP:=zH (TPa w0 pb tv params 2 0 bv bl w16) (hz.out.keep hs);have hJ:=hid (hK.out.trans he);have hQ:=hid (RowIn.turn hN.out he (fun q hq hr=>(hm.out q hq).1 (.inl hr)) (fun _ _ h=>h):StrsIn w16 (.slice ra n (c-1)) r)
      have hB:=zH (Stays (PaOwn pb bv bl) w16 (.slice ra n (c-1))) (hm.out.mono (fun q hq=>.inl hq) he.size);clear q15 r15 ql15 rl15;clear he hs hk;go_wp2_with fail
      obtain⟨b,hb⟩:∃ b,bl[bl.length-1]? = some b:=⟨_,List.getElem?_eq_getElem (by have:=Hy.out (by omega);have:0<bl.length:=List.length_pos_iff.2 this;omega)⟩
      have hX:=th.out b hb;refine (Zf3 w16 hP.out hY.out _ r hQ.out hB.out (by rw[Hh.out];omega) b hb (by omega) hX.1).mono ?_;rintro e5 w5 ⟨rfl,e',bl',hI,hD,hU⟩;have Hb:=hid ((hJ.out.mono (fun q _ hq=>.inl hq):Turn (PaOwn pb bv bl) w w16).trans hD);have Hi:=hid hU;have Hf:=hid hI;clear hI hD hU hb hX q16 r16 ql16 rl16;go_wp2
      go_end0
      refine⟨rfl,params,2,e',bv,bl',Hf.out,Hb.out,?_⟩;rw[hA.out,if_pos (by trivial)];exact V7 (fun s h=>Zbw h) Hi.out
     all_goals
      intro vs w16 hs hk _;simp only[List.take,putAll,Act.put,Zh,Zd,Is,Any,List.setIfInBounds_toArray,List.set_cons_zero,List.set_cons_succ,Nat.reduceAdd]at hk ⊢;try simp only[hk]
     iterate 3
      ·go_wp2
       exact⟨_,rfl,rfl,.refl _⟩
     ·go_wp2
      exact⟨_,(Zy _ 68).symm,trivial,.refl _⟩
     ·go_wp2
      exact⟨_,(Zy _ 69).symm,trivial,.refl _⟩
     ·go_wp2
      exact⟨_,(Zy _ 70).symm,trivial,.refl _⟩
     ·go_wp2
      exact⟨_,(Zy _ 71).symm,trivial,.refl _⟩
     ·go_wp2
      exact⟨_,(Zy _ 72).symm,trivial,.refl _⟩
     ·go_wp2
      exact⟨_,(Zy _ 73).symm,trivial,.refl _⟩
    all_goals
     intro vs w14 hs hk _;simp only[List.take,putAll,Act.put,Zh,Zd,Is,List.setIfInBounds_toArray,List.set_cons_zero,List.set_cons_succ,Nat.reduceAdd]at hk ⊢;try simp only[hk]
    iterate 2
     ·go_wp2
      exact⟨_,rfl,rfl,.refl _⟩
    ·have z1:w14.cell? ⟨qb,0,none⟩=some (.pointer (some ⟨pb,0,none⟩)):=(hs.cell (p:=⟨qb,0,none⟩) ql13).trans q13;have z2:qb<w14.heap.size:=Nat.lt_of_lt_of_le ql13 hs.size;go_wp2
     exact⟨_,rfl,rfl,.refl _⟩
    ·go_wp2
     exact⟨_,rfl,rfl,.refl _⟩
    ·have y1:w14.cell? ⟨qb,0,none⟩=some (.pointer (some ⟨pb,0,none⟩)):=(hs.cell (p:=⟨qb,0,none⟩) ql13).trans q13;have y2:w14.cell? ⟨rb,0,none⟩=some (.slice ra n (c-1)):=(hs.cell (p:=⟨rb,0,none⟩) rl13).trans r13;have y3:w14.cell? ⟨pb,2,none⟩=some (.int .i64 2):=(hh.out.keep hs).cell 2;have y4:pb<w14.heap.size:=(hh.out.keep hs).box.lt;go_wp2_with fail
     refine (ZcH w14 y1 y3 (Nat.lt_of_lt_of_le ql13 hs.size) y4).mono ?_;rintro e15 w15 ⟨rfl,hF⟩;obtain rfl:w14=w15:=hF.symm;rw[hG.out];go_wp2
     exact⟨_,rfl,rfl,.refl _⟩
   ·have hG:=zH ((pl==2)=false) (by simp[hR]);have HZ:=zH (ZD ⟨params,bl.map FBlk.d,pl⟩ (f::r)=.error 70) (by rw[hA.out,if_neg hR]);clear hR;refine Zb 5 rfl (by decide +kernel) (by decide +kernel) (by decide +kernel) (by decide)
     [Is (.bool true),Is (.bool true),Is (.pointer (some ⟨pb,0,none⟩)),Is (.func (.func 73) #[] #[.pointer (some ⟨qb,0,none⟩)]),Is (.bool false)]
     (by repeat (first | exact trivial | refine⟨Is.stable _,?_⟩ | refine⟨Any.stable,?_⟩)) ⟨?_,?_,?_,?_,?_,trivial⟩ ?_
    rotate_right
    ·intro vs w14 hs hk;simp only[List.take,List.drop,putAll,Act.put,Zc,Zd,Is,List.setIfInBounds_toArray,List.set_cons_zero,List.set_cons_succ,Nat.reduceAdd]at hk ⊢;try simp only[hk]
     have hc:Turn (fun q=>q=pb) w13 w14:=Turn.since hs;have q14:w14.cell? ⟨qb,0,none⟩=some (.pointer (some ⟨pb,0,none⟩)):=(hc.cell (p:=⟨qb,0,none⟩) ql13 hi).trans q13;have r14:w14.cell? ⟨rb,0,none⟩=some (.slice ra n (c-1)):=(hc.cell (p:=⟨rb,0,none⟩) rl13 hy).trans r13;have ql14:=Nat.lt_of_lt_of_le ql13 hc.size;have rl14:=Nat.lt_of_lt_of_le rl13 hc.size;have hv:=zH (TPa w0 pb tv params pl 0 bv bl w14) (hh.out.keep hs);have hu:=hid (hM.out.trans hc);have hC:=hid (RowIn.turn hO.out hc (fun q hq hr=>(hg.out q hq).1 (.inl hr)) (fun _ _ h=>h):StrsIn w14 (.slice ra n (c-1)) r)
     have hf:=zH (Stays (PaOwn pb bv bl) w14 (.slice ra n (c-1))) (hg.out.mono (fun q hq=>.inl hq) hc.size);clear q13 r13 ql13 rl13;clear hc hs hk;go_wp2_with fail
     refine (Zw w14 hv.out false 70 (by decide)).mono ?_;rintro e15 w15 ⟨rfl,hp,ht⟩;have HF:=hid (HE.out 70 w15 HZ.out (by decide) hp (hu.out.trans ht));clear hp ht q14 r14 ql14 rl14;go_wp2
     go_end0
     exact HF.out
    all_goals
     intro vs w14 hs hk _;simp only[List.take,putAll,Act.put,Zh,Zd,Is,List.setIfInBounds_toArray,List.set_cons_zero,List.set_cons_succ,Nat.reduceAdd]at hk ⊢;try simp only[hk]
    iterate 2
     ·go_wp2
      exact⟨_,rfl,rfl,.refl _⟩
    ·have z1:w14.cell? ⟨qb,0,none⟩=some (.pointer (some ⟨pb,0,none⟩)):=(hs.cell (p:=⟨qb,0,none⟩) ql13).trans q13;have z2:qb<w14.heap.size:=Nat.lt_of_lt_of_le ql13 hs.size;go_wp2
     exact⟨_,rfl,rfl,.refl _⟩
    ·go_wp2
     exact⟨_,rfl,rfl,.refl _⟩
    ·have y1:w14.cell? ⟨qb,0,none⟩=some (.pointer (some ⟨pb,0,none⟩)):=(hs.cell (p:=⟨qb,0,none⟩) ql13).trans q13;have y2:w14.cell? ⟨rb,0,none⟩=some (.slice ra n (c-1)):=(hs.cell (p:=⟨rb,0,none⟩) rl13).trans r13;have y3:w14.cell? ⟨pb,2,none⟩=some (.int .i64 pl):=(hh.out.keep hs).cell 2;have y4:pb<w14.heap.size:=(hh.out.keep hs).box.lt;go_wp2_with fail
     refine (ZcH w14 y1 y3 (Nat.lt_of_lt_of_le ql13 hs.size) y4).mono ?_;rintro e15 w15 ⟨rfl,hF⟩;obtain rfl:w14=w15:=hF.symm;rw[hG.out];go_wp2
     exact⟨_,rfl,rfl,.refl _⟩
  ·have q1:(f.toList==[102,117,110,99])=false:=WO g1;have q2:(f.toList==[98,108,111,99,107])=false:=VX g2;have q3:(f.toList==[112,104,105])=false:=ZcI g3;have hA:=hid (show ZD ⟨params,bl.map FBlk.d,pl⟩ (f::r)=(if 0<op then (if 2≤pl then YZ ⟨params,bl.map FBlk.d,pl⟩ op r else .error 70) else if 0<1+id then (if 2≤pl then YD ⟨params,bl.map FBlk.d,pl⟩ (1+id) r else .error 70) else .error 72) from by
    show (if f=Y8 then _ else if f=YW then _ else if f=Wv then _ else if 0<Yp f then (if 2≤pl then YZ _ (Yp f) r else .error 70) else if 0<WC f then (if 2≤pl then YD _ (WC f) r else .error 70) else .error 72)=_
    rw[if_neg g1,if_neg g2,if_neg g3,tL.out,Tp.out])
   clear g1 g2 g3;by_cases ho:0<op
   ·by_cases Hr:2≤pl
    ·refine Zb 5 rfl (by decide +kernel) (by decide +kernel) (by decide +kernel) (by decide)
      [Is (.bool false),Is (.bool false),Any,Any,Any]
      (by repeat (first | exact trivial | refine⟨Is.stable _,?_⟩ | refine⟨Any.stable,?_⟩)) ⟨?_,?_,?_,?_,?_,trivial⟩ ?_
     rotate_right
     ·intro vs w14 hs hk;simp only[List.take,List.drop,putAll,Act.put,Zc,Zd,Is,Any,List.setIfInBounds_toArray,List.set_cons_zero,List.set_cons_succ,Nat.reduceAdd]at hk ⊢;try simp only[hk]
      have hc:Turn (fun q=>q=pb) w13 w14:=Turn.since hs;have q14:w14.cell? ⟨qb,0,none⟩=some (.pointer (some ⟨pb,0,none⟩)):=(hc.cell (p:=⟨qb,0,none⟩) ql13 hi).trans q13;have r14:w14.cell? ⟨rb,0,none⟩=some (.slice ra n (c-1)):=(hc.cell (p:=⟨rb,0,none⟩) rl13 hy).trans r13;have ql14:=Nat.lt_of_lt_of_le ql13 hc.size;have rl14:=Nat.lt_of_lt_of_le rl13 hc.size;have hv:=zH (TPa w0 pb tv params pl 0 bv bl w14) (hh.out.keep hs);have hu:=hid (hM.out.trans hc);have hC:=hid (RowIn.turn hO.out hc (fun q hq hr=>(hg.out q hq).1 (.inl hr)) (fun _ _ h=>h):StrsIn w14 (.slice ra n (c-1)) r)
      have hf:=zH (Stays (PaOwn pb bv bl) w14 (.slice ra n (c-1))) (hg.out.mono (fun q hq=>.inl hq) hc.size);clear q13 r13 ql13 rl13;clear hc hs hk;go_wp2_with fail
      refine (Zw w14 hv.out true 72 (by decide)).mono ?_;rintro e15 w15 ⟨rfl,hp,ht⟩;have q15:w15.cell? ⟨qb,0,none⟩=some (.pointer (some ⟨pb,0,none⟩)):=(ht.cell (p:=⟨qb,0,none⟩) ql14 hi).trans q14;have r15:w15.cell? ⟨rb,0,none⟩=some (.slice ra n (c-1)):=(ht.cell (p:=⟨rb,0,none⟩) rl14 hy).trans r14;have ql15:=Nat.lt_of_lt_of_le ql14 ht.size;have rl15:=Nat.lt_of_lt_of_le rl14 ht.size;have hz:=zH (TPa w0 pb tv params pl 0 bv bl w15) hp;have hK:=hid (hu.out.trans ht);have hN:=hid (RowIn.turn hC.out ht (fun q hq hr=>(hf.out q hq).1 (.inl hr)) (fun _ _ h=>h):StrsIn w15 (.slice ra n (c-1)) r)
      have hm:=zH (Stays (PaOwn pb bv bl) w15 (.slice ra n (c-1))) (hf.out.mono (fun q hq=>.inl hq) ht.size);clear q14 r14 ql14 rl14;clear hp ht;go_wp2_with fail
      refine Zb 9 rfl (by decide +kernel) (by decide +kernel) (by decide +kernel) (by decide)
       [Is (.bool false),Is (.bool true),Is (.bool true),Is (.pointer (some ⟨pb,0,none⟩)),Is (.pointer (some ⟨pb,0,none⟩)),Is (.pointer (some ⟨pb,0,none⟩)),Is (.pointer (some ⟨pb,2,none⟩)),Is (.int .i64 pl),Is (.bool true)]
       (by repeat (first | exact trivial | refine⟨Is.stable _,?_⟩ | refine⟨Any.stable,?_⟩)) ⟨?_,?_,?_,?_,?_,?_,?_,?_,?_,trivial⟩ ?_
      rotate_right
      ·intro vs w16 hs hk;simp only[List.take,List.drop,putAll,Act.put,Zc,Zd,Is,List.setIfInBounds_toArray,List.set_cons_zero,List.set_cons_succ,Nat.reduceAdd]at hk ⊢;try simp only[hk]
       have he:Turn (fun q=>q=pb) w15 w16:=Turn.since hs;have q16:w16.cell? ⟨qb,0,none⟩=some (.pointer (some ⟨pb,0,none⟩)):=(he.cell (p:=⟨qb,0,none⟩) ql15 hi).trans q15;have r16:w16.cell? ⟨rb,0,none⟩=some (.slice ra n (c-1)):=(he.cell (p:=⟨rb,0,none⟩) rl15 hy).trans r15;have ql16:=Nat.lt_of_lt_of_le ql15 he.size;have rl16:=Nat.lt_of_lt_of_le rl15 he.size;have hP:=zH (TPa w0 pb tv params pl 0 bv bl w16) (hz.out.keep hs);have hJ:=hid (hK.out.trans he);have hQ:=hid (RowIn.turn hN.out he (fun q hq hr=>(hm.out q hq).1 (.inl hr)) (fun _ _ h=>h):StrsIn w16 (.slice ra n (c-1)) r)
       have hB:=zH (Stays (PaOwn pb bv bl) w16 (.slice ra n (c-1))) (hm.out.mono (fun q hq=>.inl hq) he.size);clear q15 r15 ql15 rl15;clear he hs hk;go_wp2_with fail
       refine (Zw w16 hP.out true 70 (by decide)).mono ?_;rintro e15 w17 ⟨rfl,hp,ht⟩;have q17:w17.cell? ⟨qb,0,none⟩=some (.pointer (some ⟨pb,0,none⟩)):=(ht.cell (p:=⟨qb,0,none⟩) ql16 hi).trans q16;have r17:w17.cell? ⟨rb,0,none⟩=some (.slice ra n (c-1)):=(ht.cell (p:=⟨rb,0,none⟩) rl16 hy).trans r16;have ql17:=Nat.lt_of_lt_of_le ql16 ht.size;have rl17:=Nat.lt_of_lt_of_le rl16 ht.size;have Hg:=zH (TPa w0 pb tv params pl 0 bv bl w17) hp;have Hc:=hid (hJ.out.trans ht);have He:=hid (RowIn.turn hQ.out ht (fun q hq hr=>(hB.out q hq).1 (.inl hr)) (fun _ _ h=>h):StrsIn w17 (.slice ra n (c-1)) r)
       have hW:=zH (Stays (PaOwn pb bv bl) w17 (.slice ra n (c-1))) (hB.out.mono (fun q hq=>.inl hq) ht.size);clear q16 r16 ql16 rl16;clear hp ht;go_wp2_with fail
       go_wp2_with fail
       obtain⟨b,hb⟩:∃ b,bl[bl.length-1]? = some b:=⟨_,List.getElem?_eq_getElem (by have:=Hy.out (by omega);have:0<bl.length:=List.length_pos_iff.2 this;omega)⟩
       have hX:=th.out b hb;refine (Zgl w17 Hg.out hY.out op (by omega) _ r He.out hW.out (by rw[Hh.out];omega) b hb (by omega) hX.2).mono ?_;rintro e5 w5 ⟨rfl,e',bl',hI,hD,hU⟩;have Hb:=hid ((Hc.out.mono (fun q _ hq=>.inl hq):Turn (PaOwn pb bv bl) w w17).trans hD);have Hi:=hid hU;have Hf:=hid (hI.put 2 (.int .i64 3) (params':=params) (pl':=3) (e':=e') (tl':=[tv]) rfl);have k2:w5.cell? ⟨pb,2,none⟩=some (.int .i64 _):=hI.cell 2;have kl5:=hI.box.lt;have kf5:=hI.box.frozen;have q5:w5.cell? ⟨qb,0,none⟩=some (.pointer (some ⟨pb,0,none⟩)):=(hD.cell (p:=⟨qb,0,none⟩) ql17 (fun h=>by have:=Hm.out qb h;omega)).trans q17;have ql5:=Nat.lt_of_lt_of_le ql17 hD.size;clear hI hD hU hb hX q17 r17 ql17 rl17;go_wp2
       go_end0
       refine⟨rfl,params,3,e',bv,bl',Hf.out,Hb.out.setCell (.inl rfl) _,?_⟩;rw[hA.out,if_pos (by omega:0<op),if_pos Hr];exact V7 (fun s h=>ZbN h) Hi.out
      all_goals
       intro vs w16 hs hk _;simp only[List.take,putAll,Act.put,Zh,Zd,Is,List.setIfInBounds_toArray,List.set_cons_zero,List.set_cons_succ,Nat.reduceAdd]at hk ⊢;try simp only[hk]
      iterate 3
       ·go_wp2
        exact⟨_,rfl,rfl,.refl _⟩
      iterate 2
       ·have z1:w16.cell? ⟨qb,0,none⟩=some (.pointer (some ⟨pb,0,none⟩)):=(hs.cell (p:=⟨qb,0,none⟩) ql15).trans q15;have z2:qb<w16.heap.size:=Nat.lt_of_lt_of_le ql15 hs.size;go_wp2
        exact⟨_,rfl,rfl,.refl _⟩
      iterate 2
       ·go_wp2
        exact⟨_,rfl,rfl,.refl _⟩
      ·have z1:w16.cell? ⟨pb,2,none⟩=some (.int .i64 pl):=(hz.out.keep hs).cell 2;have z2:pb<w16.heap.size:=(hz.out.keep hs).box.lt;go_wp2
       exact⟨_,rfl,rfl,.refl _⟩
      ·go_wp2
       exact⟨_,rfl,rfl,.refl _⟩
     all_goals
      intro vs w14 hs hk _;simp only[List.take,putAll,Act.put,Zh,Zd,Is,Any,List.setIfInBounds_toArray,List.set_cons_zero,List.set_cons_succ,Nat.reduceAdd]at hk ⊢;try simp only[hk]
     iterate 2
      ·go_wp2
       exact⟨_,rfl,rfl,.refl _⟩
     ·go_wp2
      exact⟨_,(Zy _ 44).symm,trivial,.refl _⟩
     ·go_wp2
      exact⟨_,(Zy _ 45).symm,trivial,.refl _⟩
     ·go_wp2
      exact⟨_,(Zy _ 46).symm,trivial,.refl _⟩
    ·have HZ:=zH (ZD ⟨params,bl.map FBlk.d,pl⟩ (f::r)=.error 70) (by rw[hA.out,if_pos ho,if_neg Hr]);refine Zb 5 rfl (by decide +kernel) (by decide +kernel) (by decide +kernel) (by decide)
      [Is (.bool false),Is (.bool false),Any,Any,Any]
      (by repeat (first | exact trivial | refine⟨Is.stable _,?_⟩ | refine⟨Any.stable,?_⟩)) ⟨?_,?_,?_,?_,?_,trivial⟩ ?_
     rotate_right
     ·intro vs w14 hs hk;simp only[List.take,List.drop,putAll,Act.put,Zc,Zd,Is,Any,List.setIfInBounds_toArray,List.set_cons_zero,List.set_cons_succ,Nat.reduceAdd]at hk ⊢;try simp only[hk]
      have hc:Turn (fun q=>q=pb) w13 w14:=Turn.since hs;have q14:w14.cell? ⟨qb,0,none⟩=some (.pointer (some ⟨pb,0,none⟩)):=(hc.cell (p:=⟨qb,0,none⟩) ql13 hi).trans q13;have r14:w14.cell? ⟨rb,0,none⟩=some (.slice ra n (c-1)):=(hc.cell (p:=⟨rb,0,none⟩) rl13 hy).trans r13;have ql14:=Nat.lt_of_lt_of_le ql13 hc.size;have rl14:=Nat.lt_of_lt_of_le rl13 hc.size;have hv:=zH (TPa w0 pb tv params pl 0 bv bl w14) (hh.out.keep hs);have hu:=hid (hM.out.trans hc);have hC:=hid (RowIn.turn hO.out hc (fun q hq hr=>(hg.out q hq).1 (.inl hr)) (fun _ _ h=>h):StrsIn w14 (.slice ra n (c-1)) r)
      have hf:=zH (Stays (PaOwn pb bv bl) w14 (.slice ra n (c-1))) (hg.out.mono (fun q hq=>.inl hq) hc.size);clear q13 r13 ql13 rl13;clear hc hs hk;go_wp2_with fail
      refine (Zw w14 hv.out true 72 (by decide)).mono ?_;rintro e15 w15 ⟨rfl,hp,ht⟩;have q15:w15.cell? ⟨qb,0,none⟩=some (.pointer (some ⟨pb,0,none⟩)):=(ht.cell (p:=⟨qb,0,none⟩) ql14 hi).trans q14;have r15:w15.cell? ⟨rb,0,none⟩=some (.slice ra n (c-1)):=(ht.cell (p:=⟨rb,0,none⟩) rl14 hy).trans r14;have ql15:=Nat.lt_of_lt_of_le ql14 ht.size;have rl15:=Nat.lt_of_lt_of_le rl14 ht.size;have hz:=zH (TPa w0 pb tv params pl 0 bv bl w15) hp;have hK:=hid (hu.out.trans ht);have hN:=hid (RowIn.turn hC.out ht (fun q hq hr=>(hf.out q hq).1 (.inl hr)) (fun _ _ h=>h):StrsIn w15 (.slice ra n (c-1)) r)
      have hm:=zH (Stays (PaOwn pb bv bl) w15 (.slice ra n (c-1))) (hf.out.mono (fun q hq=>.inl hq) ht.size);clear q14 r14 ql14 rl14;clear hp ht;go_wp2_with fail
      refine Zb 9 rfl (by decide +kernel) (by decide +kernel) (by decide +kernel) (by decide)
       [Is (.bool false),Is (.bool true),Is (.bool true),Is (.pointer (some ⟨pb,0,none⟩)),Is (.pointer (some ⟨pb,0,none⟩)),Is (.pointer (some ⟨pb,0,none⟩)),Is (.pointer (some ⟨pb,2,none⟩)),Is (.int .i64 pl),Is (.bool false)]
       (by repeat (first | exact trivial | refine⟨Is.stable _,?_⟩ | refine⟨Any.stable,?_⟩)) ⟨?_,?_,?_,?_,?_,?_,?_,?_,?_,trivial⟩ ?_
      rotate_right
      ·intro vs w16 hs hk;simp only[List.take,List.drop,putAll,Act.put,Zc,Zd,Is,List.setIfInBounds_toArray,List.set_cons_zero,List.set_cons_succ,Nat.reduceAdd]at hk ⊢;try simp only[hk]
       have he:Turn (fun q=>q=pb) w15 w16:=Turn.since hs;have q16:w16.cell? ⟨qb,0,none⟩=some (.pointer (some ⟨pb,0,none⟩)):=(he.cell (p:=⟨qb,0,none⟩) ql15 hi).trans q15;have r16:w16.cell? ⟨rb,0,none⟩=some (.slice ra n (c-1)):=(he.cell (p:=⟨rb,0,none⟩) rl15 hy).trans r15;have ql16:=Nat.lt_of_lt_of_le ql15 he.size;have rl16:=Nat.lt_of_lt_of_le rl15 he.size;have hP:=zH (TPa w0 pb tv params pl 0 bv bl w16) (hz.out.keep hs);have hJ:=hid (hK.out.trans he);have hQ:=hid (RowIn.turn hN.out he (fun q hq hr=>(hm.out q hq).1 (.inl hr)) (fun _ _ h=>h):StrsIn w16 (.slice ra n (c-1)) r)
       have hB:=zH (Stays (PaOwn pb bv bl) w16 (.slice ra n (c-1))) (hm.out.mono (fun q hq=>.inl hq) he.size);clear q15 r15 ql15 rl15;clear he hs hk;go_wp2_with fail
       refine (Zw w16 hP.out false 70 (by decide)).mono ?_;rintro e15 w15 ⟨rfl,hp,ht⟩;have HF:=hid (HE.out 70 w15 HZ.out (by decide) hp (hJ.out.trans ht));clear hp ht q16 r16 ql16 rl16;go_wp2
       go_end0
       exact HF.out
      all_goals
       intro vs w16 hs hk _;simp only[List.take,putAll,Act.put,Zh,Zd,Is,List.setIfInBounds_toArray,List.set_cons_zero,List.set_cons_succ,Nat.reduceAdd]at hk ⊢;try simp only[hk]
      iterate 3
       ·go_wp2
        exact⟨_,rfl,rfl,.refl _⟩
      iterate 2
       ·have z1:w16.cell? ⟨qb,0,none⟩=some (.pointer (some ⟨pb,0,none⟩)):=(hs.cell (p:=⟨qb,0,none⟩) ql15).trans q15;have z2:qb<w16.heap.size:=Nat.lt_of_lt_of_le ql15 hs.size;go_wp2
        exact⟨_,rfl,rfl,.refl _⟩
      iterate 2
       ·go_wp2
        exact⟨_,rfl,rfl,.refl _⟩
      ·have z1:w16.cell? ⟨pb,2,none⟩=some (.int .i64 pl):=(hz.out.keep hs).cell 2;have z2:pb<w16.heap.size:=(hz.out.keep hs).box.lt;go_wp2
       exact⟨_,rfl,rfl,.refl _⟩
      ·go_wp2
       exact⟨_,rfl,congrArg Value.bool (decide_eq_false (by omega)),.refl _⟩
     all_goals
      intro vs w14 hs hk _;simp only[List.take,putAll,Act.put,Zh,Zd,Is,Any,List.setIfInBounds_toArray,List.set_cons_zero,List.set_cons_succ,Nat.reduceAdd]at hk ⊢;try simp only[hk]
     iterate 2
      ·go_wp2
       exact⟨_,rfl,rfl,.refl _⟩
     ·go_wp2
      exact⟨_,(Zy _ 44).symm,trivial,.refl _⟩
     ·go_wp2
      exact⟨_,(Zy _ 45).symm,trivial,.refl _⟩
     ·go_wp2
      exact⟨_,(Zy _ 46).symm,trivial,.refl _⟩
   ·by_cases hk:0<1+id
    ·by_cases Hr:2≤pl
     ·refine Zb 5 rfl (by decide +kernel) (by decide +kernel) (by decide +kernel) (by decide)
       [Is (.bool false),Is (.bool false),Any,Any,Any]
       (by repeat (first | exact trivial | refine⟨Is.stable _,?_⟩ | refine⟨Any.stable,?_⟩)) ⟨?_,?_,?_,?_,?_,trivial⟩ ?_
      rotate_right
      ·intro vs w14 hs hk;simp only[List.take,List.drop,putAll,Act.put,Zc,Zd,Is,Any,List.setIfInBounds_toArray,List.set_cons_zero,List.set_cons_succ,Nat.reduceAdd]at hk ⊢;try simp only[hk]
       have hc:Turn (fun q=>q=pb) w13 w14:=Turn.since hs;have q14:w14.cell? ⟨qb,0,none⟩=some (.pointer (some ⟨pb,0,none⟩)):=(hc.cell (p:=⟨qb,0,none⟩) ql13 hi).trans q13;have r14:w14.cell? ⟨rb,0,none⟩=some (.slice ra n (c-1)):=(hc.cell (p:=⟨rb,0,none⟩) rl13 hy).trans r13;have ql14:=Nat.lt_of_lt_of_le ql13 hc.size;have rl14:=Nat.lt_of_lt_of_le rl13 hc.size;have hv:=zH (TPa w0 pb tv params pl 0 bv bl w14) (hh.out.keep hs);have hu:=hid (hM.out.trans hc);have hC:=hid (RowIn.turn hO.out hc (fun q hq hr=>(hg.out q hq).1 (.inl hr)) (fun _ _ h=>h):StrsIn w14 (.slice ra n (c-1)) r)
       have hf:=zH (Stays (PaOwn pb bv bl) w14 (.slice ra n (c-1))) (hg.out.mono (fun q hq=>.inl hq) hc.size);clear q13 r13 ql13 rl13;clear hc hs hk;go_wp2_with fail
       refine (Zw w14 hv.out true 72 (by decide)).mono ?_;rintro e15 w15 ⟨rfl,hp,ht⟩;have q15:w15.cell? ⟨qb,0,none⟩=some (.pointer (some ⟨pb,0,none⟩)):=(ht.cell (p:=⟨qb,0,none⟩) ql14 hi).trans q14;have r15:w15.cell? ⟨rb,0,none⟩=some (.slice ra n (c-1)):=(ht.cell (p:=⟨rb,0,none⟩) rl14 hy).trans r14;have ql15:=Nat.lt_of_lt_of_le ql14 ht.size;have rl15:=Nat.lt_of_lt_of_le rl14 ht.size;have hz:=zH (TPa w0 pb tv params pl 0 bv bl w15) hp;have hK:=hid (hu.out.trans ht);have hN:=hid (RowIn.turn hC.out ht (fun q hq hr=>(hf.out q hq).1 (.inl hr)) (fun _ _ h=>h):StrsIn w15 (.slice ra n (c-1)) r)
       have hm:=zH (Stays (PaOwn pb bv bl) w15 (.slice ra n (c-1))) (hf.out.mono (fun q hq=>.inl hq) ht.size);clear q14 r14 ql14 rl14;clear hp ht;go_wp2_with fail
       refine Zb 9 rfl (by decide +kernel) (by decide +kernel) (by decide +kernel) (by decide)
        [Is (.bool false),Is (.bool true),Is (.bool true),Is (.pointer (some ⟨pb,0,none⟩)),Is (.pointer (some ⟨pb,0,none⟩)),Is (.pointer (some ⟨pb,0,none⟩)),Is (.pointer (some ⟨pb,2,none⟩)),Is (.int .i64 pl),Is (.bool true)]
        (by repeat (first | exact trivial | refine⟨Is.stable _,?_⟩ | refine⟨Any.stable,?_⟩)) ⟨?_,?_,?_,?_,?_,?_,?_,?_,?_,trivial⟩ ?_
       rotate_right
       ·intro vs w16 hs hk;simp only[List.take,List.drop,putAll,Act.put,Zc,Zd,Is,List.setIfInBounds_toArray,List.set_cons_zero,List.set_cons_succ,Nat.reduceAdd]at hk ⊢;try simp only[hk]
        have he:Turn (fun q=>q=pb) w15 w16:=Turn.since hs;have q16:w16.cell? ⟨qb,0,none⟩=some (.pointer (some ⟨pb,0,none⟩)):=(he.cell (p:=⟨qb,0,none⟩) ql15 hi).trans q15;have r16:w16.cell? ⟨rb,0,none⟩=some (.slice ra n (c-1)):=(he.cell (p:=⟨rb,0,none⟩) rl15 hy).trans r15;have ql16:=Nat.lt_of_lt_of_le ql15 he.size;have rl16:=Nat.lt_of_lt_of_le rl15 he.size;have hP:=zH (TPa w0 pb tv params pl 0 bv bl w16) (hz.out.keep hs);have hJ:=hid (hK.out.trans he);have hQ:=hid (RowIn.turn hN.out he (fun q hq hr=>(hm.out q hq).1 (.inl hr)) (fun _ _ h=>h):StrsIn w16 (.slice ra n (c-1)) r)
        have hB:=zH (Stays (PaOwn pb bv bl) w16 (.slice ra n (c-1))) (hm.out.mono (fun q hq=>.inl hq) he.size);clear q15 r15 ql15 rl15;clear he hs hk;go_wp2_with fail
        refine (Zw w16 hP.out true 70 (by decide)).mono ?_;rintro e15 w17 ⟨rfl,hp,ht⟩;have q17:w17.cell? ⟨qb,0,none⟩=some (.pointer (some ⟨pb,0,none⟩)):=(ht.cell (p:=⟨qb,0,none⟩) ql16 hi).trans q16;have r17:w17.cell? ⟨rb,0,none⟩=some (.slice ra n (c-1)):=(ht.cell (p:=⟨rb,0,none⟩) rl16 hy).trans r16;have ql17:=Nat.lt_of_lt_of_le ql16 ht.size;have rl17:=Nat.lt_of_lt_of_le rl16 ht.size;have Hg:=zH (TPa w0 pb tv params pl 0 bv bl w17) hp;have Hc:=hid (hJ.out.trans ht);have He:=hid (RowIn.turn hQ.out ht (fun q hq hr=>(hB.out q hq).1 (.inl hr)) (fun _ _ h=>h):StrsIn w17 (.slice ra n (c-1)) r)
        have hW:=zH (Stays (PaOwn pb bv bl) w17 (.slice ra n (c-1))) (hB.out.mono (fun q hq=>.inl hq) ht.size);clear q16 r16 ql16 rl16;clear hp ht;go_wp2_with fail
        go_wp2_with fail
        obtain⟨b,hb⟩:∃ b,bl[bl.length-1]? = some b:=⟨_,List.getElem?_eq_getElem (by have:=Hy.out (by omega);have:0<bl.length:=List.length_pos_iff.2 this;omega)⟩
        have hX:=th.out b hb;refine (ZeS w17 Hg.out hY.out (1+id) (by omega) _ r He.out hW.out (by rw[Hh.out];omega) b hb (by omega)).mono ?_;rintro e5 w5 ⟨rfl,e',bl',hI,hD,hU⟩;have Hb:=hid ((Hc.out.mono (fun q _ hq=>.inl hq):Turn (PaOwn pb bv bl) w w17).trans hD);have Hi:=hid hU;have Hf:=hid (hI.put 2 (.int .i64 1) (params':=params) (pl':=1) (e':=e') (tl':=[tv]) rfl);have k2:w5.cell? ⟨pb,2,none⟩=some (.int .i64 _):=hI.cell 2;have kl5:=hI.box.lt;have kf5:=hI.box.frozen;have q5:w5.cell? ⟨qb,0,none⟩=some (.pointer (some ⟨pb,0,none⟩)):=(hD.cell (p:=⟨qb,0,none⟩) ql17 (fun h=>by have:=Hm.out qb h;omega)).trans q17;have ql5:=Nat.lt_of_lt_of_le ql17 hD.size;clear hI hD hU hb hX q17 r17 ql17 rl17;go_wp2
        go_end0
        refine⟨rfl,params,1,e',bv,bl',Hf.out,Hb.out.setCell (.inl rfl) _,?_⟩;rw[hA.out,if_neg (by omega:¬ 0<op),if_pos (by omega:0<1+id),if_pos Hr];exact V7 (fun s h=>Zaz h) Hi.out
       all_goals
        intro vs w16 hs hk _;simp only[List.take,putAll,Act.put,Zh,Zd,Is,List.setIfInBounds_toArray,List.set_cons_zero,List.set_cons_succ,Nat.reduceAdd]at hk ⊢;try simp only[hk]
       iterate 3
        ·go_wp2
         exact⟨_,rfl,rfl,.refl _⟩
       iterate 2
        ·have z1:w16.cell? ⟨qb,0,none⟩=some (.pointer (some ⟨pb,0,none⟩)):=(hs.cell (p:=⟨qb,0,none⟩) ql15).trans q15;have z2:qb<w16.heap.size:=Nat.lt_of_lt_of_le ql15 hs.size;go_wp2
         exact⟨_,rfl,rfl,.refl _⟩
       iterate 2
        ·go_wp2
         exact⟨_,rfl,rfl,.refl _⟩
       ·have z1:w16.cell? ⟨pb,2,none⟩=some (.int .i64 pl):=(hz.out.keep hs).cell 2;have z2:pb<w16.heap.size:=(hz.out.keep hs).box.lt;go_wp2
        exact⟨_,rfl,rfl,.refl _⟩
       ·go_wp2
        exact⟨_,rfl,rfl,.refl _⟩
      all_goals
       intro vs w14 hs hk _;simp only[List.take,putAll,Act.put,Zh,Zd,Is,Any,List.setIfInBounds_toArray,List.set_cons_zero,List.set_cons_succ,Nat.reduceAdd]at hk ⊢;try simp only[hk]
      iterate 2
       ·go_wp2
        exact⟨_,rfl,rfl,.refl _⟩
      ·go_wp2
       exact⟨_,(Zy _ 44).symm,trivial,.refl _⟩
      ·go_wp2
       exact⟨_,(Zy _ 45).symm,trivial,.refl _⟩
      ·go_wp2
       exact⟨_,(Zy _ 46).symm,trivial,.refl _⟩
     ·have HZ:=zH (ZD ⟨params,bl.map FBlk.d,pl⟩ (f::r)=.error 70) (by rw[hA.out,if_neg ho,if_pos hk,if_neg Hr]);refine Zb 5 rfl (by decide +kernel) (by decide +kernel) (by decide +kernel) (by decide)
       [Is (.bool false),Is (.bool false),Any,Any,Any]
       (by repeat (first | exact trivial | refine⟨Is.stable _,?_⟩ | refine⟨Any.stable,?_⟩)) ⟨?_,?_,?_,?_,?_,trivial⟩ ?_
      rotate_right
      ·intro vs w14 hs hk;simp only[List.take,List.drop,putAll,Act.put,Zc,Zd,Is,Any,List.setIfInBounds_toArray,List.set_cons_zero,List.set_cons_succ,Nat.reduceAdd]at hk ⊢;try simp only[hk]
       have hc:Turn (fun q=>q=pb) w13 w14:=Turn.since hs;have q14:w14.cell? ⟨qb,0,none⟩=some (.pointer (some ⟨pb,0,none⟩)):=(hc.cell (p:=⟨qb,0,none⟩) ql13 hi).trans q13;have r14:w14.cell? ⟨rb,0,none⟩=some (.slice ra n (c-1)):=(hc.cell (p:=⟨rb,0,none⟩) rl13 hy).trans r13;have ql14:=Nat.lt_of_lt_of_le ql13 hc.size;have rl14:=Nat.lt_of_lt_of_le rl13 hc.size;have hv:=zH (TPa w0 pb tv params pl 0 bv bl w14) (hh.out.keep hs);have hu:=hid (hM.out.trans hc);have hC:=hid (RowIn.turn hO.out hc (fun q hq hr=>(hg.out q hq).1 (.inl hr)) (fun _ _ h=>h):StrsIn w14 (.slice ra n (c-1)) r)
       have hf:=zH (Stays (PaOwn pb bv bl) w14 (.slice ra n (c-1))) (hg.out.mono (fun q hq=>.inl hq) hc.size);clear q13 r13 ql13 rl13;clear hc hs hk;go_wp2_with fail
       refine (Zw w14 hv.out true 72 (by decide)).mono ?_;rintro e15 w15 ⟨rfl,hp,ht⟩;have q15:w15.cell? ⟨qb,0,none⟩=some (.pointer (some ⟨pb,0,none⟩)):=(ht.cell (p:=⟨qb,0,none⟩) ql14 hi).trans q14;have r15:w15.cell? ⟨rb,0,none⟩=some (.slice ra n (c-1)):=(ht.cell (p:=⟨rb,0,none⟩) rl14 hy).trans r14;have ql15:=Nat.lt_of_lt_of_le ql14 ht.size;have rl15:=Nat.lt_of_lt_of_le rl14 ht.size;have hz:=zH (TPa w0 pb tv params pl 0 bv bl w15) hp;have hK:=hid (hu.out.trans ht);have hN:=hid (RowIn.turn hC.out ht (fun q hq hr=>(hf.out q hq).1 (.inl hr)) (fun _ _ h=>h):StrsIn w15 (.slice ra n (c-1)) r)
       have hm:=zH (Stays (PaOwn pb bv bl) w15 (.slice ra n (c-1))) (hf.out.mono (fun q hq=>.inl hq) ht.size);clear q14 r14 ql14 rl14;clear hp ht;go_wp2_with fail
       refine Zb 9 rfl (by decide +kernel) (by decide +kernel) (by decide +kernel) (by decide)
        [Is (.bool false),Is (.bool true),Is (.bool true),Is (.pointer (some ⟨pb,0,none⟩)),Is (.pointer (some ⟨pb,0,none⟩)),Is (.pointer (some ⟨pb,0,none⟩)),Is (.pointer (some ⟨pb,2,none⟩)),Is (.int .i64 pl),Is (.bool false)]
        (by repeat (first | exact trivial | refine⟨Is.stable _,?_⟩ | refine⟨Any.stable,?_⟩)) ⟨?_,?_,?_,?_,?_,?_,?_,?_,?_,trivial⟩ ?_
       rotate_right
       ·intro vs w16 hs hk;simp only[List.take,List.drop,putAll,Act.put,Zc,Zd,Is,List.setIfInBounds_toArray,List.set_cons_zero,List.set_cons_succ,Nat.reduceAdd]at hk ⊢;try simp only[hk]
        have he:Turn (fun q=>q=pb) w15 w16:=Turn.since hs;have q16:w16.cell? ⟨qb,0,none⟩=some (.pointer (some ⟨pb,0,none⟩)):=(he.cell (p:=⟨qb,0,none⟩) ql15 hi).trans q15;have r16:w16.cell? ⟨rb,0,none⟩=some (.slice ra n (c-1)):=(he.cell (p:=⟨rb,0,none⟩) rl15 hy).trans r15;have ql16:=Nat.lt_of_lt_of_le ql15 he.size;have rl16:=Nat.lt_of_lt_of_le rl15 he.size;have hP:=zH (TPa w0 pb tv params pl 0 bv bl w16) (hz.out.keep hs);have hJ:=hid (hK.out.trans he);have hQ:=hid (RowIn.turn hN.out he (fun q hq hr=>(hm.out q hq).1 (.inl hr)) (fun _ _ h=>h):StrsIn w16 (.slice ra n (c-1)) r)
        have hB:=zH (Stays (PaOwn pb bv bl) w16 (.slice ra n (c-1))) (hm.out.mono (fun q hq=>.inl hq) he.size);clear q15 r15 ql15 rl15;clear he hs hk;go_wp2_with fail
        refine (Zw w16 hP.out false 70 (by decide)).mono ?_;rintro e15 w15 ⟨rfl,hp,ht⟩;have HF:=hid (HE.out 70 w15 HZ.out (by decide) hp (hJ.out.trans ht));clear hp ht q16 r16 ql16 rl16;go_wp2
        go_end0
        exact HF.out
       all_goals
        intro vs w16 hs hk _;simp only[List.take,putAll,Act.put,Zh,Zd,Is,List.setIfInBounds_toArray,List.set_cons_zero,List.set_cons_succ,Nat.reduceAdd]at hk ⊢;try simp only[hk]
       iterate 3
        ·go_wp2
         exact⟨_,rfl,rfl,.refl _⟩
       iterate 2
        ·have z1:w16.cell? ⟨qb,0,none⟩=some (.pointer (some ⟨pb,0,none⟩)):=(hs.cell (p:=⟨qb,0,none⟩) ql15).trans q15;have z2:qb<w16.heap.size:=Nat.lt_of_lt_of_le ql15 hs.size;go_wp2
         exact⟨_,rfl,rfl,.refl _⟩
       iterate 2
        ·go_wp2
         exact⟨_,rfl,rfl,.refl _⟩
       ·have z1:w16.cell? ⟨pb,2,none⟩=some (.int .i64 pl):=(hz.out.keep hs).cell 2;have z2:pb<w16.heap.size:=(hz.out.keep hs).box.lt;go_wp2
        exact⟨_,rfl,rfl,.refl _⟩
       ·go_wp2
        exact⟨_,rfl,congrArg Value.bool (decide_eq_false (by omega)),.refl _⟩
      all_goals
       intro vs w14 hs hk _;simp only[List.take,putAll,Act.put,Zh,Zd,Is,Any,List.setIfInBounds_toArray,List.set_cons_zero,List.set_cons_succ,Nat.reduceAdd]at hk ⊢;try simp only[hk]
      iterate 2
       ·go_wp2
        exact⟨_,rfl,rfl,.refl _⟩
      ·go_wp2
       exact⟨_,(Zy _ 44).symm,trivial,.refl _⟩
      ·go_wp2
       exact⟨_,(Zy _ 45).symm,trivial,.refl _⟩
      ·go_wp2
       exact⟨_,(Zy _ 46).symm,trivial,.refl _⟩
    ·have HZ:=zH (ZD ⟨params,bl.map FBlk.d,pl⟩ (f::r)=.error 72) (by rw[hA.out,if_neg ho,if_neg hk]);refine Zb 5 rfl (by decide +kernel) (by decide +kernel) (by decide +kernel) (by decide)
      [Is (.bool false),Is (.bool false),Any,Any,Any]
      (by repeat (first | exact trivial | refine⟨Is.stable _,?_⟩ | refine⟨Any.stable,?_⟩)) ⟨?_,?_,?_,?_,?_,trivial⟩ ?_
     rotate_right
     ·intro vs w14 hs hk;simp only[List.take,List.drop,putAll,Act.put,Zc,Zd,Is,Any,List.setIfInBounds_toArray,List.set_cons_zero,List.set_cons_succ,Nat.reduceAdd]at hk ⊢;try simp only[hk]
      have hc:Turn (fun q=>q=pb) w13 w14:=Turn.since hs;have q14:w14.cell? ⟨qb,0,none⟩=some (.pointer (some ⟨pb,0,none⟩)):=(hc.cell (p:=⟨qb,0,none⟩) ql13 hi).trans q13;have r14:w14.cell? ⟨rb,0,none⟩=some (.slice ra n (c-1)):=(hc.cell (p:=⟨rb,0,none⟩) rl13 hy).trans r13;have ql14:=Nat.lt_of_lt_of_le ql13 hc.size;have rl14:=Nat.lt_of_lt_of_le rl13 hc.size;have hv:=zH (TPa w0 pb tv params pl 0 bv bl w14) (hh.out.keep hs);have hu:=hid (hM.out.trans hc);have hC:=hid (RowIn.turn hO.out hc (fun q hq hr=>(hg.out q hq).1 (.inl hr)) (fun _ _ h=>h):StrsIn w14 (.slice ra n (c-1)) r)
      have hf:=zH (Stays (PaOwn pb bv bl) w14 (.slice ra n (c-1))) (hg.out.mono (fun q hq=>.inl hq) hc.size);clear q13 r13 ql13 rl13;clear hc hs hk;go_wp2_with fail
      refine (Zw w14 hv.out false 72 (by decide)).mono ?_;rintro e15 w15 ⟨rfl,hp,ht⟩;have HF:=hid (HE.out 72 w15 HZ.out (by decide) hp (hu.out.trans ht));clear hp ht q14 r14 ql14 rl14;go_wp2
      go_end0
      exact HF.out
     all_goals
      intro vs w14 hs hk _;simp only[List.take,putAll,Act.put,Zh,Zd,Is,Any,List.setIfInBounds_toArray,List.set_cons_zero,List.set_cons_succ,Nat.reduceAdd]at hk ⊢;try simp only[hk]
     iterate 2
      ·go_wp2
       exact⟨_,rfl,rfl,.refl _⟩
     ·go_wp2
      exact⟨_,(Zy _ 44).symm,trivial,.refl _⟩
     ·go_wp2
      exact⟨_,(Zy _ 45).symm,trivial,.refl _⟩
     ·go_wp2
      exact⟨_,(Zy _ 46).symm,trivial,.refl _⟩
 all_goals
  intro vs w8 hs hk _;simp only[List.take,putAll,Act.put,Zh,Zd,Is,List.setIfInBounds_toArray,List.set_cons_zero,List.set_cons_succ,Nat.reduceAdd]at hk ⊢;try simp only[hk]
 iterate 2
  ·go_wp2
   exact⟨_,rfl,rfl,.refl _⟩
 ·have z1:=(hs.cell (p:=⟨vb,vo,none⟩) Hw).trans tE;have z2:=Nat.lt_of_lt_of_le Hw hs.size;go_wp2
  exact⟨_,rfl,rfl,.refl _⟩
 iterate 2
  ·go_wp2
   exact⟨_,rfl,rfl,.refl _⟩
 ·have t2:=Nat.le_trans ti hs.size;go_wp2
  exact⟨_,rfl,⟨_,rfl,HeapIs.new _ _ _,t2⟩,(Since.refl _).alloc _⟩
 ·go_wp2
  exact⟨_,rfl,rfl,.refl _⟩
end
end Go.Proofs.YtmhojfpidedjeaaGreatDoor
