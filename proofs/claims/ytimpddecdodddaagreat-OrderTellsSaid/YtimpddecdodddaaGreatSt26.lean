import Derived.Test.YtimpddecdodddaaGreatSt18
import Derived.Test.YtimpddecdodddaaGreatSt20
namespace Go.Proofs.YtimpddecdodddaaGreat
open Go.Proofs.Tryz Go.RowKit Go.Lib
set_option linter.unusedVariables false
set_option maxHeartbeats 1000000
set_option maxRecDepth 100000
theorem qH {P:Prop} (h:P:=by
 have he:HeapIs w13 tb #[_,_,_,_] 175:=(A12.out.keep hs).box;dsimp only at he;have hc:=he.cell 2;have hl:=he.lt;clear he;go_wp2
 exact⟨_,rfl,rfl,.refl _⟩):P:=h
theorem qK {P:Prop} (h:P:=by exact XT R1.out.2.2 H4.out MV4.out EB4.out ⟨hB.out.1,hB.out.2,by dsimp only;omega,by dsimp only;omega,by dsimp only;omega⟩ (by decide) (by decide) (by decide)):P:=h
theorem qL {P:Prop} (h:P:=by exact XT R1.out.2.2 H5.out MV5.out EB5.out ⟨hB.out.1,hB.out.2,by dsimp only;omega,by dsimp only;omega,by dsimp only;omega⟩ (by decide) (by decide) (by decide)):P:=h
theorem ji {P:Prop} (h:P:=by
 have hz:=hs.size;clear hk;go_wp2
 exact⟨_,rfl,⟨_,rfl,hz,HeapIs.new _ _ _⟩,(Since.refl _).alloc _⟩):P:=h
theorem kR {P:Prop} (h:P:=by rw[hw];exact EB3.out.set (.inr (.inr rfl)) hr.out.1 0 _ rfl EB3.out.goals EB3.out.newer):P:=h
theorem kS {P:Prop} (h:P:=by rw[hE];exact EB4.out.set (.inr (.inr rfl)) hr.out.1 1 _ rfl EB4.out.goals EB4.out.newer):P:=h
def tmv (x:YP):Value:=.agg #[.int .i64 x.kind,x.argsv,x.tov,.int .i32 x.imm]
def edv (e:ZY):Value:=.agg #[.int .i64 e.op,.int .i64 e.a,.int .i64 e.b,e.tov,.int .i32 e.imm]
def Qt (e:ZY):List Value:=[.int .i64 e.op,.int .i64 e.a,.int .i64 e.b,e.tov,.int .i32 e.imm]
structure Vh (n:Nat) (e:ZY):Prop where
 imm:In32 e.imm
 goals:∀ x∈e.to,1≤x∧x<(n:Int)
 a : -1≤e.a∧e.a<10000
 b:0≤e.b∧e.b<10000
 op:(e.op=1∧e.to.length=1∧0≤e.a)∨((e.op=2∨e.op=3∨e.op=5)∧e.to.length=2∧0≤e.a)∨(e.op=6∧(2≤e.to.length∧e.to.length≤65)∧0≤e.a)∨(e.op=7∧e.to.length=0)∨(e.op=8∧e.to.length=0∧0≤e.a)
structure X3 (C:Nat→Prop) (kb tb:Nat) (t:YP) (m:K7) (w:World):Prop where
 box:HeapIs w tb (VF t).toArray 175
 apart:¬ YM kb m tb
 args:Zd w t.argsv t.args∧Stays (ZT C kb m) w t.argsv
 goals:Zd w t.tov t.to∧Stays (ZT C kb m) w t.tov
theorem X3.mv {C : Nat→Prop} {kb tb:Nat} {t : YP} {m m':K7} {w w':World} {a n i:Nat} (h:X3 C kb tb t m w) (v:Mv7 kb w m w' m' a n i):X3 C kb tb t m' w':=
 ⟨v.heap h.box h.apart,fun hq=>by
  rcases v.new tb hq with h1|h1
  ·exact h.apart h1
  ·have:=h.box.lt;omega,⟨v.nums h.args.1 h.args.2,v.stays h.args.2⟩,v.nums h.goals.1 h.goals.2,v.stays h.goals.2⟩
theorem X3.keep {C : Nat→Prop} {kb tb:Nat} {t : YP} {m : K7} {w w':World} (h:X3 C kb tb t m w) (s:Since w w'):X3 C kb tb t m w':=⟨h.box.keep s,h.apart,⟨h.args.1.keep s,h.args.2.keep s⟩,h.goals.1.keep s,h.goals.2.keep s⟩
theorem X3.swap {C C' T:Nat→Prop} {kb tb:Nat} {t : YP} {m : K7} {w w':World} (h:X3 C kb tb t m w) (tn:Zb T w w') (hT:∀ q,q<w.heap.size→T q→C q) (hC:∀ q,C' q→C q∨w.heap.size≤q) (hb:¬ T tb):X3 C' kb tb t m w':=by
 have hS:∀ q,ZT C' kb m q→ZT C kb m q∨w.heap.size≤q:=by
  rintro q (hq|hq)
  ·exact .inl (.inl hq)
  ·rcases hC q hq with h1|h1
   ·exact .inl (.inr h1)
   ·exact .inr h1
 have ha:∀ {v : Value},Stays (ZT C kb m) w v→∀ q,v.ownBlock=some q→¬ T q:=fun hv q hq e=>(hv q hq).1 (.inr (hT q (hv q hq).2 e))
 exact⟨h.box.turn tn hb,h.apart,⟨h.args.1.turn tn (ha h.args.2),h.args.2.mono hS tn.size⟩,h.goals.1.turn tn (ha h.goals.2),h.goals.2.mono hS tn.size⟩
theorem X3.arg {C : Nat→Prop} {kb tb:Nat} {t : YP} {m : K7} {w : World} (h:X3 C kb tb t m w) {B off n ac:Nat} (hv:t.argsv=.slice (some ⟨B,off,none⟩) n ac) {j : Nat} {v : Int} (hj:t.args[j]? = some v):w.cell? ⟨B,off+j,none⟩=some (.int .i64 v)∧B<w.heap.size:=by
 exact yD
theorem X3.goal {C : Nat→Prop} {kb tb:Nat} {t : YP} {m : K7} {w : World} (h:X3 C kb tb t m w) {B off n ac:Nat} (hv:t.tov=.slice (some ⟨B,off,none⟩) n ac) {j : Nat} {v : Int} (hj:t.to[j]? = some v):w.cell? ⟨B,off+j,none⟩=some (.int .i64 v)∧B<w.heap.size:=by
 rcases h.goals.1 with ⟨a,h1,h2⟩|⟨b,o,cap,h1,_,_,h4,h5⟩
 ·rw[h2]at hj;cases hj
 ·rw[hv]at h1
  cases h1
  exact⟨h5 j v hj,h4⟩
structure Y0 (C:Nat→Prop) (kb eb rb:Nat) (e:ZY) (m:K7) (w:World):Prop where
 box:HeapIs w eb (Qt e).toArray 32
 res:HeapIs w rb #[.int .i64 0,.int .i64 0,.int .i64 0,.slice none 0 0,.int .i32 0] 32
 apart:¬ YM kb m eb∧¬ YM kb m rb
 goals:Zd w e.tov e.to∧Stays (ZT C kb m) w e.tov
 newer:∀ q,e.tov.ownBlock=some q→m.base≤q
theorem Y0.mv {C : Nat→Prop} {kb eb rb:Nat} {e : ZY} {m m':K7} {w w':World} {a n i:Nat} (h:Y0 C kb eb rb e m w) (v:Mv7 kb w m w' m' a n i):Y0 C kb eb rb e m' w':=
 ⟨v.heap h.box h.apart.1,v.heap h.res h.apart.2,⟨fun hq=>by
  rcases v.new eb hq with h1|h1
  ·exact h.apart.1 h1
  ·have:=h.box.lt;omega,fun hq=>by
  rcases v.new rb hq with h1|h1
  ·exact h.apart.2 h1
  ·have:=h.res.lt;omega⟩,⟨v.nums h.goals.1 h.goals.2,v.stays h.goals.2⟩,by rw[v.base];exact h.newer⟩
theorem Y0.keep {C : Nat→Prop} {kb eb rb:Nat} {e : ZY} {m : K7} {w w':World} (h:Y0 C kb eb rb e m w) (s:Since w w'):Y0 C kb eb rb e m w':=⟨h.box.keep s,h.res.keep s,h.apart,⟨h.goals.1.keep s,h.goals.2.keep s⟩,h.newer⟩
theorem Y0.set {C : Nat→Prop} {kb eb rb:Nat} {e e':ZY} {m : K7} {w : World} (h:Y0 C kb eb rb e m w) (hC:C eb) (hc:rb≠eb) (j:Nat) (v:Value) (he:(Qt e).toArray.setIfInBounds j v=(Qt e').toArray) (ha:Zd w e'.tov e'.to∧Stays (ZT C kb m) w e'.tov) (hb:∀ q,e'.tov.ownBlock=some q→m.base≤q):Y0 C kb eb rb e' m (w.setCell ⟨eb,j,none⟩ v):=by
 have t:Zb (fun q=>q=eb) w (w.setCell ⟨eb,j,none⟩ v):=(Zb.refl (fun q=>q=eb) w).setCell (p:=⟨eb,j,none⟩) rfl _;have h1:=h.box.set j v;rw[he]at h1;exact⟨h1,h.res.turn t hc,h.apart,⟨ha.1.turn t (fun q hq e=>(ha.2 q hq).1 (.inr (e ▸ hC))),ha.2.mono (fun _ hq=>.inl hq) t.size⟩,hb⟩
def JH (w0:World) (imm:Int) (xs:List Int) (v:Value) (w:World):Prop:=∃ v3,v=.agg #[.int .i64 0,.int .i64 0,.int .i64 0,v3,.int .i32 imm]∧Yx 3 w0 xs v3 w
theorem JH.stable (w0:World) (imm:Int) (xs:List Int):ZH (JH w0 imm xs):=fun v w w' ⟨v3,h1,h2⟩ s=>⟨v3,h1,Yx.stable _ _ _ v3 w w' h2 s⟩
def VM (w0:World) (v:Value) (w:World):Prop:=∃ b,v=.pointer (some ⟨b,0,none⟩)∧w0.heap.size≤b∧HeapIs w b #[.int .i64 0,.int .i64 0,.int .i64 0,.slice none 0 0,.int .i32 0] 32
theorem VM.stable (w0:World):ZH (VM w0):=fun v w w' ⟨b,h1,h2,h3⟩ s=>⟨b,h1,h2,h3.keep s⟩
def Zeh (C:Nat→Prop) (kb:Nat) (sv:Value) (l:List Int) (w:World) (m:K7) (n:Nat) (e:Ending) (w':World):Prop:=
 ∃ (m':K7) (ev:ZY),e=.returned (edv ev)∧Vh n ev∧K7Ok C kb sv l m' w'∧Mv7 kb w m w' m' 2 1 2∧(Zd w' ev.tov ev.to∧Stays (ZT C kb m') w' ev.tov)∧∀ q,ev.tov.ownBlock=some q→m'.base≤q
theorem XT {C : Nat→Prop} {kb eb rb:Nat} {e : ZY} {sv:Value} {l : List Int} {m0 m:K7} {w wn:World} {n a b c:Nat} (hd:w.heap.size≤rb) (H:K7Ok (fun q=>C q∨q=rb∨q=eb) kb sv l m wn) (MV:Mv7 kb w m0 wn m a b c) (EB:Y0 (fun q=>C q∨q=rb∨q=eb) kb eb rb e m wn) (hg:Vh n e) (ha:a≤2) (hb:b≤1) (hc:c≤2) :
  Zeh C kb sv l w m0 n (.returned (edv e)) (((((wn.setCell ⟨rb,0,none⟩ (.int .i64 e.op)).setCell ⟨rb,1,none⟩ (.int .i64 e.a)).setCell ⟨rb,2,none⟩ (.int .i64 e.b)).setCell ⟨rb,3,none⟩ e.tov).setCell ⟨rb,4,none⟩ (.int .i32 e.imm)):=by
 have t:Zb (fun q=>q=rb) wn (((((wn.setCell ⟨rb,0,none⟩ (.int .i64 e.op)).setCell ⟨rb,1,none⟩ (.int .i64 e.a)).setCell ⟨rb,2,none⟩ (.int .i64 e.b)).setCell ⟨rb,3,none⟩ e.tov).setCell ⟨rb,4,none⟩ (.int .i32 e.imm)):=(((((Zb.refl (fun q=>q=rb) wn).setCell (p:=⟨rb,0,none⟩) rfl _).setCell (p:=⟨rb,1,none⟩) rfl _).setCell (p:=⟨rb,2,none⟩) rfl _).setCell (p:=⟨rb,3,none⟩) rfl _).setCell (p:=⟨rb,4,none⟩) rfl _;have hS:∀ q,ZT C kb m q→ZT (fun q=>C q∨q=rb∨q=eb) kb m q∨wn.heap.size≤q:=by
  rintro q (h1|h1)
  ·exact .inl (.inl h1)
  ·exact .inl (.inr (.inl h1))
 refine⟨m,e,rfl,hg,H.swapC t (fun q _ e=>.inr (.inl e)) (fun q hq=>⟨.inl (.inl hq),Nat.lt_of_lt_of_le (H.aside q (.inl hq)).1 t.size⟩),(MV.beside t fun q hq=>by rw[hq];exact hd).more ha hb hc,⟨EB.goals.1.turn t (fun q hq e=>(EB.goals.2 q hq).1 (.inr (.inr (.inl e)))),EB.goals.2.mono hS t.size⟩,EB.newer⟩
def JE (w0:World) (a b:Int) (v:Value) (w:World):Prop:=∃ q,v=.slice (some ⟨q,0,none⟩) 2 2∧w0.heap.size≤q∧HeapIs w q #[.int .i64 a,.int .i64 b] 3
theorem JE.stable (w0:World) (a b:Int):ZH (JE w0 a b):=fun v w w' ⟨q,h1,h2,h3⟩ s=>⟨q,h1,h2,h3.keep s⟩
theorem Zcs {w : World} {q : Nat} {a b:Int} {T : TypeId} (h:HeapIs w q #[.int .i64 a,.int .i64 b] T):Zd w (.slice (some ⟨q,0,none⟩) 2 2) [a,b]:=by
 refine .inr ⟨q,0,2,rfl,Nat.le_refl 2,by unfold maxLen;omega,h.lt,fun j n hj=>?_⟩
 match j,hj with
 | 0,hj=>cases hj;exact h.cell 0
 | 1,hj=>cases hj;exact h.cell 1
section
variable {C : Nat→Prop} {kb:Nat} {sv:Value} {l : List Int} {m : K7} {w : World}
theorem Ze9 (h:K7Ok C kb sv l m w) (hs:Sm7 40 m) (t:YP) (n:Nat) (ht:(Zd w t.argsv t.args∧Stays (ZT C kb m) w t.argsv)∧Zd w t.tov t.to∧Stays (ZT C kb m) w t.tov) (hg:Y7 700 n t) :
  Calls prog 105 #[.pointer (some ⟨kb,0,none⟩),tmv t] w (Zeh C kb sv l w m n):=by
 obtain⟨kind,args,argsv,tl,tov,imm⟩:=t;dsimp only at ht;have HQ:In32 imm:=hg.1;have Hc:∀ a∈args,0≤a∧a<700:=hg.2.1
 have HV:∀ x∈tl,1≤x∧x<(n:Int):=hg.2.2.1
 have hk:=hg.2.2.2;dsimp only at hk;have HL:=hid hk;clear hk;have hB:=hid (And.intro HQ HV);clear hg;unfold tmv;dsimp only;obtain⟨m0,H0⟩:∃ x,x=m:=⟨_,rfl⟩
 subst H0;obtain⟨w1,hZ⟩:∃ z,z=(w.alloc (.cells (VF ⟨kind,args,argsv,tl,tov,imm⟩).toArray 175)).alloc (.cells #[.int .i64 0,.int .i64 0,.int .i64 0,.slice none 0 0,.int .i32 0] 32):=⟨_,rfl⟩
 have hL:Since w w1:=by rw[hZ];exact ((Since.refl w).alloc _).alloc _
 have HH:=hid h;have Ho:=hid ht;have tf:=hid hL;have H1:=hid (h.keep hL);have MV1:=hid ((Mv7.refl kb w m0).keep hL);have SM1:=hid hs;obtain⟨tb,Ht⟩:∃ z,z=w.heap.size:=⟨_,rfl⟩
 obtain⟨rb,Hu⟩:∃ z,z=w.heap.size+1:=⟨_,rfl⟩
 have A1:=zH (X3 C kb tb ⟨kind,args,argsv,tl,tov,imm⟩ m0 w1) ⟨by rw[hZ,Ht];exact (HeapIs.new _ _ _).keep ((Since.refl _).alloc _),fun hq=>by have:=h.ltOwn hq;omega,⟨ht.1.1.keep hL,ht.1.2.keep hL⟩,ht.2.1.keep hL,ht.2.2.keep hL⟩
 have R1:=zH (HeapIs w1 rb #[.int .i64 0,.int .i64 0,.int .i64 0,.slice none 0 0,.int .i32 0] 32∧¬ YM kb m0 rb∧w.heap.size≤rb) ⟨by rw[hZ,Hu];have h9:=HeapIs.new (w.alloc (.cells (VF ⟨kind,args,argsv,tl,tov,imm⟩).toArray 175)) #[.int .i64 0,.int .i64 0,.int .i64 0,.slice none 0 0,.int .i32 0] 32;rw[show (w.alloc (.cells (VF ⟨kind,args,argsv,tl,tov,imm⟩).toArray 175)).heap.size=w.heap.size+1 from by simp]at h9;exact h9,fun hq=>by have:=h.ltOwn hq;omega,zaK⟩;have td:=zH (tl.length≤100000) (by have h9:=HL.out;omega);clear h hs ht hL;go_enter func105,ntmps105
 go_upto_region 1 with fail
 rw[show (.cells #[.int .i64 kind,argsv,tov,.int .i32 imm] 175:Obj)=.cells (VF ⟨kind,args,argsv,tl,tov,imm⟩).toArray 175 from rfl,←hZ,←Hu,←Ht];have HB:=zH (w.heap.size≤w1.heap.size) (by rw[hZ];simp;omega);clear hZ Ht Hu;refine Zh 8 rfl zaC zaC zaC zaJ
  [IsNilOf 3 w1,Is (.pointer (some ⟨tb,2,none⟩)),Is tov,Yx 3 w1 tl,Is (.pointer (some ⟨tb,3,none⟩)),Is (.int .i32 imm),JH w1 imm tl,VM w1]
  (by repeat (first | exact trivial | refine⟨Is.stable _,?_⟩ | refine⟨IsNilOf.stable _ _,?_⟩ | refine⟨Yx.stable _ _ _,?_⟩ | refine⟨JH.stable _ _ _,?_⟩ | refine⟨VM.stable _,?_⟩)) ⟨?_,?_,?_,?_,?_,?_,?_,?_,trivial⟩ ?_
 rotate_right
 ·intro vs w2 hs hk;revert hk;refine zs0 ?_;intro hk
  obtain⟨v3,h6,h0⟩:JH w1 imm tl (vs 6) w2:=by exact hk.2.2.2.2.2.2.1
  obtain⟨eb,h7,hf,hH⟩:VM w1 (vs 7) w2:=by exact hk.2.2.2.2.2.2.2.1
  simp only[h6,h7];obtain⟨m2,hV⟩:∃ x,x=m0:=⟨_,rfl⟩
  have H2:=hid (H1.out.keep hs);have MV2:=hid (MV1.out.keep hs);have SM2:=SM1;have A2:=hid (A1.out.keep hs);have MV2:=Jk hV MV2;rw[←hV]at H2 SM2 A2;have hh:=hH.frozen;have HR:=hH.lt;have hp:=hH.cell 0;have hn:=hH.cell 1;have hm:=hH.cell 2;have hj:=hH.cell 3;have hi:=hH.cell 4;clear hk;obtain⟨na,nc,Hs⟩:=Ze (show w2.ownsRow _ _ _ _ _ _ from h0);subst Hs;go_upto_region 2 with fail
  have hX:HeapIs w2 eb #[.int .i64 0,.int .i64 0,.int .i64 0,.slice none 0 0,.int .i32 0] 32:=hH;have Hj:=((((hX.set 0 (.int .i64 0)).set 1 (.int .i64 0)).set 2 (.int .i64 0)).set 3 (.slice na tl.length nc)).set 4 (.int .i32 imm);obtain⟨w3,Hr⟩:∃ z,z=((((w2.setCell ⟨eb,0,none⟩ (.int .i64 0)).setCell ⟨eb,1,none⟩ (.int .i64 0)).setCell ⟨eb,2,none⟩ (.int .i64 0)).setCell ⟨eb,3,none⟩ (.slice na tl.length nc)).setCell ⟨eb,4,none⟩ (.int .i32 imm):=⟨_,rfl⟩
  have t3:Zb (fun q=>q=eb) w2 w3:=by rw[Hr];exact (((((Zb.refl (fun q=>q=eb) w2).setCell (p:=⟨eb,0,none⟩) rfl _).setCell (p:=⟨eb,1,none⟩) rfl _).setCell (p:=⟨eb,2,none⟩) rfl _).setCell (p:=⟨eb,3,none⟩) rfl _).setCell (p:=⟨eb,4,none⟩) rfl _
  rw[←Hr]at Hj ⊢;have hK:=tf.out.trans hs;have HA:∀ q,(C q∨q=rb∨q=eb)→C q∨w.heap.size≤q:=by
   rintro q (hq|hq|hq)
   ·exact .inl hq
   ·exact .inr (by rw[hq];exact R1.out.2.2)
   ·exact .inr (by rw[hq];have:=HB.out;omega)
  have Hg:K7Ok (fun q=>C q∨q=rb∨q=eb) kb sv l m2 w2:=by
   rw[hV];refine HH.out.swapC (T:=fun _=>False) (Zb.since hK) (fun q _ e=>e.elim) fun q hq=>⟨HA q hq,?_⟩
   rcases hq with hq|hq|hq
   ·exact Nat.lt_of_lt_of_le (HH.out.aside q hq).1 hK.size
   ·rw[hq];exact Nat.lt_of_lt_of_le R1.out.1.lt hs.size
   ·rw[hq];exact hX.lt
  obtain⟨m3,h2⟩:∃ x,x=m2:=⟨_,rfl⟩
  have Hi:∀ {v : Value},Stays (ZT C kb m0) w v→Stays (ZT (fun q=>C q∨q=rb∨q=eb) kb m2) w2 v:=fun hv=>hv.mono (by
   rw[hV];rintro q (hq|hq)
   ·exact .inl (.inl hq)
   ·rcases HA q hq with h1|h1
    ·exact .inl (.inr h1)
    ·exact .inr h1) hK.size
  have Hm:rb≠eb∧tb≠eb:=⟨fun e=>by have:=R1.out.1.lt;omega,Yq A2.out.box hX zaJ⟩;have HJ:X3 (fun q=>C q∨q=rb∨q=eb) kb tb ⟨kind,args,argsv,tl,tov,imm⟩ m2 w2:=⟨A2.out.box,A2.out.apart,⟨Ho.out.1.1.keep hK,Hi Ho.out.1.2⟩,Ho.out.2.1.keep hK,Hi Ho.out.2.2⟩;have Hh:Stays (ZT (fun q=>C q∨q=rb∨q=eb) kb m2) w2 (.slice na tl.length nc):=fun q hq=>by
   have ta:=World.ownsRow.lt h0 q hq;refine⟨?_,ta.2⟩;rintro (h1|h1|h1|h1)
   ·have:=H1.out.ltOwn (by rw[hV]at h1;exact h1);omega
   ·have:=(HH.out.aside q h1).1;have:=HB.out;omega
   ·have:=R1.out.1.lt;omega
   ·exact Zn h0 hX zaJ (h1 ▸ hq)
  have H3:=zH (K7Ok (fun q=>C q∨q=rb∨q=eb) kb sv l m3 w3) (by rw[h2];exact Hg.swapC t3 (fun q _ e=>.inr (.inr e)) fun q hq=>⟨.inl hq,Nat.lt_of_lt_of_le (Hg.aside q hq).1 t3.size⟩)
  have hD:=zH (w.heap.size≤eb) (by have:=HB.out;omega);have MV3:=Jk h2 (hid (MV2.out.beside t3 fun q hq=>by rw[hq];exact hD.out));have SM3:Hid (Sm7 40 m3):=by rw[h2];exact SM2
  have A3:=zH (X3 (fun q=>C q∨q=rb∨q=eb) kb tb ⟨kind,args,argsv,tl,tov,imm⟩ m3 w3) (by rw[h2];exact HJ.swap t3 (fun q _ e=>.inr (.inr e)) (fun q hq=>.inl hq) Hm.2)
  have EB3:=hid (show Y0 (fun q=>C q∨q=rb∨q=eb) kb eb rb ⟨0,0,0,tl,.slice na tl.length nc,imm⟩ m3 w3 from by
   rw[h2];refine⟨Hj,(R1.out.1.keep hs).turn t3 Hm.1,⟨fun h1=>(Hg.aside eb (.inr (.inr rfl))).2 h1,fun h1=>(Hg.aside rb (.inr (.inl rfl))).2 h1⟩,⟨(ZB h0).turn t3 (fun q hq e=>(Hh q hq).1 (.inr (.inr (.inr e)))),Hh.mono (fun _ hq=>.inl hq) t3.size⟩,fun q hq=>by rw[hV];exact Nat.le_trans H1.out.low (World.ownsRow.lt h0 q hq).1⟩)
  have hr:=hid Hm;obtain⟨tn,HE⟩:∃ z,z=tl.length:=⟨_,rfl⟩
  rw[←HE]at EB3;clear HE hV h2 Hr t3 Hj hK HA Hg Hi Hm HJ Hh hH hX h0 h6 h7 hh HR hp hn hm hj hi hs H2 MV2 SM2 A2 H1 MV1 SM1 A1 hf;have hk:=HL.out;rcases hk with ⟨o,tc,hl⟩|⟨o,Hf,hl⟩|⟨o,Hf,hl⟩|⟨o,Hf,hl⟩|⟨o,tc,hl⟩
  ·skip
   subst o;have he:HeapIs w3 tb #[_,_,_,_] 175:=A3.out.box;dsimp only at he;have hJ:=he.cell 0;have hA:=he.lt;clear he;have hb:HeapIs w3 eb #[_,_,_,_,_] 32:=EB3.out.box;dsimp only at hb;have hf:=hb.lt;have hh:=hb.frozen;have hp:=hb.cell 0;have hn:=hb.cell 1;have hm:=hb.cell 2;have hj:=hb.cell 3;have hi:=hb.cell 4;clear hb;go_upto_region 28 with fail
   clear hf hh hp hn hm hj hi;obtain⟨w4,hw⟩:∃ z,z=w3.setCell ⟨eb,0,none⟩ (.int .i64 1):=⟨_,rfl⟩
   have t4:Zb (fun q=>q=eb) w3 w4:=by rw[hw];exact (Zb.refl (fun q=>q=eb) w3).setCell (p:=⟨eb,0,none⟩) rfl _
   obtain⟨m4,hF⟩:∃ x,x=m3:=⟨_,rfl⟩
   have H4:=hid (H3.out.swapC (C':=(fun q=>C q∨q=rb∨q=eb)) t4 (fun q _ e=>.inr (.inr e)) fun q hq=>⟨.inl hq,Nat.lt_of_lt_of_le (H3.out.aside q hq).1 t4.size⟩)
   have MV4:=hid (MV3.out.beside t4 fun q hq=>by rw[hq];exact hD.out);have SM4:=SM3;have A4:=hid (A3.out.swap (C':=(fun q=>C q∨q=rb∨q=eb)) t4 (fun q _ e=>.inr (.inr e)) (fun q hq=>.inl hq) (fun e=>hr.out.2 e))
   have EB4:=zH (Y0 (fun q=>C q∨q=rb∨q=eb) kb eb rb ⟨1,0,0,tl,.slice na tn nc,imm⟩ m3 w4) kR
   rw[←hw];rw[←hF]at H4 MV4 SM4 A4 EB4;clear hw t4 hF;clear hJ hA;have hb:HeapIs w4 eb #[_,_,_,_,_] 32:=EB4.out.box;dsimp only at hb;have hd:HeapIs w4 rb #[.int .i64 0,.int .i64 0,.int .i64 0,.slice none 0 0,.int .i32 0] 32:=EB4.out.res;have hO:=hd.lt;have hP:=hd.frozen;have hT:=hd.cell 0;have hM:=hd.cell 1;have hS:=hd.cell 2;have hR:=hd.cell 3;have hQ:=hd.cell 4;have hC:=hid hd;clear hd;go_wp2_with (refine wpList_load_row rfl _ _ rfl eb rfl 32 _ (0,0) _ hb underlying32 rfl zaF ?_)
   have hy:=((((hC.out.set 0 (.int .i64 (1))).set 1 (.int .i64 (0))).set 2 (.int .i64 (0))).set 3 (.slice na tn nc)).set 4 (.int .i32 imm);try simp only[Exit.inBlock,Exit.then]
   refine bodyPost_ret (results_cell_row rfl _ _ rb 32 #[.int .i64 (1),.int .i64 (0),.int .i64 (0),.slice na tn nc,.int .i32 imm] (0,0) _ rfl hy underlying32 rfl zaF) rfl ?_;exact qK
  ·skip
   subst o;obtain⟨a,He⟩:∃ a,args=[a]:=by
    match args,Hf with
    | [a],_=>exact⟨a,rfl⟩
   subst He;have ha:=Hc a zaL;obtain⟨B,off,ac,hG⟩:=Wl A3.out.args.1 (Nat.succ_pos _);dsimp only[List.length_cons,List.length_nil,Nat.reduceAdd]at hG;subst hG;have he:HeapIs w3 tb #[_,_,_,_] 175:=A3.out.box;dsimp only at he;have hJ:=he.cell 0;have hA:=he.lt;clear he;have hb:HeapIs w3 eb #[_,_,_,_,_] 32:=EB3.out.box;dsimp only at hb;have hf:=hb.lt;have hh:=hb.frozen;have hp:=hb.cell 0;have hn:=hb.cell 1;have hm:=hb.cell 2;have hj:=hb.cell 3;have hi:=hb.cell 4;clear hb;go_upto_region 8 with fail
   clear hf hh hp hn hm hj hi;obtain⟨w4,hw⟩:∃ z,z=w3.setCell ⟨eb,0,none⟩ (.int .i64 2):=⟨_,rfl⟩
   have t4:Zb (fun q=>q=eb) w3 w4:=by rw[hw];exact (Zb.refl (fun q=>q=eb) w3).setCell (p:=⟨eb,0,none⟩) rfl _
   obtain⟨m4,hF⟩:∃ x,x=m3:=⟨_,rfl⟩
   have H4:=hid (H3.out.swapC (C':=(fun q=>C q∨q=rb∨q=eb)) t4 (fun q _ e=>.inr (.inr e)) fun q hq=>⟨.inl hq,Nat.lt_of_lt_of_le (H3.out.aside q hq).1 t4.size⟩)
   have MV4:=hid (MV3.out.beside t4 fun q hq=>by rw[hq];exact hD.out);have SM4:=SM3;have A4:=hid (A3.out.swap (C':=(fun q=>C q∨q=rb∨q=eb)) t4 (fun q _ e=>.inr (.inr e)) (fun q hq=>.inl hq) (fun e=>hr.out.2 e))
   have EB4:=zH (Y0 (fun q=>C q∨q=rb∨q=eb) kb eb rb ⟨2,0,0,tl,.slice na tn nc,imm⟩ m3 w4) kR
   rw[←hw];rw[←hF]at H4 MV4 SM4 A4 EB4;clear hw t4 hF;clear hJ hA;have hb:HeapIs w4 eb #[_,_,_,_,_] 32:=EB4.out.box;dsimp only at hb;have hf:=hb.lt;have hh:=hb.frozen;have hp:=hb.cell 0;have hn:=hb.cell 1;have hm:=hb.cell 2;have hj:=hb.cell 3;have hi:=hb.cell 4;clear hb;have he:HeapIs w4 tb #[_,_,_,_] 175:=A4.out.box;dsimp only at he;have hI:=he.cell 1;have hA:=he.lt;clear he;obtain⟨ho,hU⟩:=A4.out.arg (j:=0) rfl (show _=some a from rfl);rw[Nat.add_zero]at ho;go_upto_region 9 with fail
   clear hf hh hp hn hm hj hi;clear hI hA ho hU;obtain⟨w5,hE⟩:∃ z,z=w4.setCell ⟨eb,1,none⟩ (.int .i64 a):=⟨_,rfl⟩
   have t5:Zb (fun q=>q=eb) w4 w5:=by rw[hE];exact (Zb.refl (fun q=>q=eb) w4).setCell (p:=⟨eb,1,none⟩) rfl _
   obtain⟨m5,hN⟩:∃ x,x=m4:=⟨_,rfl⟩
   have H5:=hid (H4.out.swapC (C':=(fun q=>C q∨q=rb∨q=eb)) t5 (fun q _ e=>.inr (.inr e)) fun q hq=>⟨.inl hq,Nat.lt_of_lt_of_le (H4.out.aside q hq).1 t5.size⟩)
   have MV5:=hid (MV4.out.beside t5 fun q hq=>by rw[hq];exact hD.out);have SM5:=SM4;have A5:=hid (A4.out.swap (C':=(fun q=>C q∨q=rb∨q=eb)) t5 (fun q _ e=>.inr (.inr e)) (fun q hq=>.inl hq) (fun e=>hr.out.2 e))
   have EB5:=zH (Y0 (fun q=>C q∨q=rb∨q=eb) kb eb rb ⟨2,a,0,tl,.slice na tn nc,imm⟩ m4 w5) kS
   rw[←hE];rw[←hN]at H5 MV5 SM5 A5 EB5;clear hE t5 hN;go_wp2_with fail
   refine (W6 H5.out 4 zaJ zan).mono ?_;rintro e w6 ⟨m6,⟨q,rfl,⟨HY,Hv⟩,HZ⟩,h6,mv6⟩;have H6:=hid h6;have MV6:=hid (MV5.out.trans mv6);have SM6:=hid (SM5.out.mv mv6);have A6:=hid (A5.out.mv mv6);have EB6:=hid (EB5.out.mv mv6);clear h6 mv6 HZ;by_cases hq:1<q
   ·skip
    go_upto_region 11 with fail
    have hb:HeapIs w6 eb #[_,_,_,_,_] 32:=EB6.out.box;dsimp only at hb;have hd:HeapIs w6 rb #[.int .i64 0,.int .i64 0,.int .i64 0,.slice none 0 0,.int .i32 0] 32:=EB6.out.res;have hO:=hd.lt;have hP:=hd.frozen;have hT:=hd.cell 0;have hM:=hd.cell 1;have hS:=hd.cell 2;have hR:=hd.cell 3;have hQ:=hd.cell 4;have hC:=hid hd;clear hd;go_wp2_with (refine wpList_load_row rfl _ _ rfl eb rfl 32 _ (0,0) _ hb underlying32 rfl zaF ?_)
    have hy:=((((hC.out.set 0 (.int .i64 (2))).set 1 (.int .i64 (a))).set 2 (.int .i64 (0))).set 3 (.slice na tn nc)).set 4 (.int .i32 imm);try simp only[Exit.inBlock,Exit.then]
    refine bodyPost_ret (results_cell_row rfl _ _ rb 32 #[.int .i64 (2),.int .i64 (a),.int .i64 (0),.slice na tn nc,.int .i32 imm] (0,0) _ rfl hy underlying32 rfl zaF) rfl ?_;exact XT R1.out.2.2 H6.out MV6.out EB6.out ⟨hB.out.1,hB.out.2,by dsimp only;omega,by dsimp only;omega,by dsimp only;omega⟩ zaJ zaJ zaJ
   ·skip
    have HY:¬ 1<q:=hq;go_wp2_with fail
    have HT:0≤m6.next∧m6.next<9000:=by have:=SM6.out.2.1;omega
    refine (Xb H6.out ⟨HT.1,zaK⟩).mono ?_;rintro e w7 ⟨m7,⟨rfl,Hn⟩,h7,mv7⟩;have H7:=hid h7;have MV7:=hid (MV6.out.trans mv7);have SM7:=hid (SM6.out.mv mv7);have A7:=hid (A6.out.mv mv7);have EB7:=hid (EB6.out.mv mv7);clear h7 mv7 Hn;go_wp2_with fail
    refine (XZ H7.out (SM7.out.mono zaJ) (m6.next) zaK (0) zar).mono ?_;rintro e w8 ⟨m8,rfl,h8,mv8⟩;have H8:=hid h8;have MV8:=hid (MV7.out.trans mv8);have SM8:=hid (SM7.out.mv mv8);have A8:=hid (A7.out.mv mv8);have EB8:=hid (EB7.out.mv mv8);clear h8 mv8;have hb:HeapIs w8 eb #[_,_,_,_,_] 32:=EB8.out.box;dsimp only at hb;have hf:=hb.lt;have hh:=hb.frozen;have hp:=hb.cell 0;have hn:=hb.cell 1;have hm:=hb.cell 2;have hj:=hb.cell 3;have hi:=hb.cell 4;clear hb;go_upto_region 15 with fail
    clear hf hh hp hn hm hj hi;obtain⟨w9,Hk⟩:∃ z,z=w8.setCell ⟨eb,0,none⟩ (.int .i64 5):=⟨_,rfl⟩
    have t9:Zb (fun q=>q=eb) w8 w9:=by rw[Hk];exact (Zb.refl (fun q=>q=eb) w8).setCell (p:=⟨eb,0,none⟩) rfl _
    obtain⟨m9,HG⟩:∃ x,x=m8:=⟨_,rfl⟩
    have H9:=hid (H8.out.swapC (C':=(fun q=>C q∨q=rb∨q=eb)) t9 (fun q _ e=>.inr (.inr e)) fun q hq=>⟨.inl hq,Nat.lt_of_lt_of_le (H8.out.aside q hq).1 t9.size⟩)
    have MV9:=hid (MV8.out.beside t9 fun q hq=>by rw[hq];exact hD.out);have SM9:=SM8;have A9:=hid (A8.out.swap (C':=(fun q=>C q∨q=rb∨q=eb)) t9 (fun q _ e=>.inr (.inr e)) (fun q hq=>.inl hq) (fun e=>hr.out.2 e))
    have EB9:=zH (Y0 (fun q=>C q∨q=rb∨q=eb) kb eb rb ⟨5,a,0,tl,.slice na tn nc,imm⟩ m8 w9) (by rw[Hk];exact EB8.out.set (.inr (.inr rfl)) hr.out.1 0 _ rfl EB8.out.goals EB8.out.newer)
    rw[←Hk];rw[←HG]at H9 MV9 SM9 A9 EB9;clear Hk t9 HG;have hb:HeapIs w9 eb #[_,_,_,_,_] 32:=EB9.out.box;dsimp only at hb;have hf:=hb.lt;have hh:=hb.frozen;have hp:=hb.cell 0;have hn:=hb.cell 1;have hm:=hb.cell 2;have hj:=hb.cell 3;have hi:=hb.cell 4;clear hb;go_upto_region 16 with fail
    clear hf hh hp hn hm hj hi;obtain⟨w10,Hb⟩:∃ z,z=w9.setCell ⟨eb,1,none⟩ (.int .i64 m6.next):=⟨_,rfl⟩
    have t10:Zb (fun q=>q=eb) w9 w10:=by rw[Hb];exact (Zb.refl (fun q=>q=eb) w9).setCell (p:=⟨eb,1,none⟩) rfl _
    obtain⟨m10,Hz⟩:∃ x,x=m9:=⟨_,rfl⟩
    have HD:=hid (H9.out.swapC (C':=(fun q=>C q∨q=rb∨q=eb)) t10 (fun q _ e=>.inr (.inr e)) fun q hq=>⟨.inl hq,Nat.lt_of_lt_of_le (H9.out.aside q hq).1 t10.size⟩)
    have MV10:=hid (MV9.out.beside t10 fun q hq=>by rw[hq];exact hD.out);have SM10:=SM9;have A10:=hid (A9.out.swap (C':=(fun q=>C q∨q=rb∨q=eb)) t10 (fun q _ e=>.inr (.inr e)) (fun q hq=>.inl hq) (fun e=>hr.out.2 e))
    have EB10:=zH (Y0 (fun q=>C q∨q=rb∨q=eb) kb eb rb ⟨5,m6.next,0,tl,.slice na tn nc,imm⟩ m9 w10) (by rw[Hb];exact EB9.out.set (.inr (.inr rfl)) hr.out.1 1 _ rfl EB9.out.goals EB9.out.newer)
    rw[←Hb];rw[←Hz]at HD MV10 SM10 A10 EB10;clear Hb t10 Hz;have hb:HeapIs w10 eb #[_,_,_,_,_] 32:=EB10.out.box;dsimp only at hb;have hf:=hb.lt;have hh:=hb.frozen;have hp:=hb.cell 0;have hn:=hb.cell 1;have hm:=hb.cell 2;have hj:=hb.cell 3;have hi:=hb.cell 4;clear hb;have he:HeapIs w10 tb #[_,_,_,_] 175:=A10.out.box;dsimp only at he;have hI:=he.cell 1;have hA:=he.lt;clear he;obtain⟨ho,hU⟩:=A10.out.arg (j:=0) rfl (show _=some a from rfl);rw[Nat.add_zero]at ho;go_upto_region 17 with fail
    clear hf hh hp hn hm hj hi;clear hI hA ho hU;obtain⟨w11,Ha⟩:∃ z,z=w10.setCell ⟨eb,2,none⟩ (.int .i64 a):=⟨_,rfl⟩
    have t11:Zb (fun q=>q=eb) w10 w11:=by rw[Ha];exact (Zb.refl (fun q=>q=eb) w10).setCell (p:=⟨eb,2,none⟩) rfl _
    obtain⟨m11,Hy⟩:∃ x,x=m10:=⟨_,rfl⟩
    have Hq:=hid (HD.out.swapC (C':=(fun q=>C q∨q=rb∨q=eb)) t11 (fun q _ e=>.inr (.inr e)) fun q hq=>⟨.inl hq,Nat.lt_of_lt_of_le (HD.out.aside q hq).1 t11.size⟩)
    have MV11:=hid (MV10.out.beside t11 fun q hq=>by rw[hq];exact hD.out);have SM11:=SM10;have A11:=hid (A10.out.swap (C':=(fun q=>C q∨q=rb∨q=eb)) t11 (fun q _ e=>.inr (.inr e)) (fun q hq=>.inl hq) (fun e=>hr.out.2 e))
    have EB11:=zH (Y0 (fun q=>C q∨q=rb∨q=eb) kb eb rb ⟨5,m6.next,a,tl,.slice na tn nc,imm⟩ m10 w11) (by rw[Ha];exact EB10.out.set (.inr (.inr rfl)) hr.out.1 2 _ rfl EB10.out.goals EB10.out.newer)
    rw[←Ha];rw[←Hy]at Hq MV11 SM11 A11 EB11;clear Ha t11 Hy;by_cases Hv:q=1
    ·skip
     subst Hv;have hb:HeapIs w11 eb #[_,_,_,_,_] 32:=EB11.out.box;dsimp only at hb;have hf:=hb.lt;have hh:=hb.frozen;have hp:=hb.cell 0;have hn:=hb.cell 1;have hm:=hb.cell 2;have hj:=hb.cell 3;have hi:=hb.cell 4;clear hb;go_upto_region 19 with fail
     clear hf hh hp hn hm hj hi;obtain⟨w12,h5⟩:∃ z,z=w11.setCell ⟨eb,0,none⟩ (.int .i64 3):=⟨_,rfl⟩
     have t12:Zb (fun q=>q=eb) w11 w12:=by rw[h5];exact (Zb.refl (fun q=>q=eb) w11).setCell (p:=⟨eb,0,none⟩) rfl _
     obtain⟨m12,Hx⟩:∃ x,x=m11:=⟨_,rfl⟩
     have Hp:=hid (Hq.out.swapC (C':=(fun q=>C q∨q=rb∨q=eb)) t12 (fun q _ e=>.inr (.inr e)) fun q hq=>⟨.inl hq,Nat.lt_of_lt_of_le (Hq.out.aside q hq).1 t12.size⟩)
     have MV12:=hid (MV11.out.beside t12 fun q hq=>by rw[hq];exact hD.out);have SM12:=SM11;have A12:=hid (A11.out.swap (C':=(fun q=>C q∨q=rb∨q=eb)) t12 (fun q _ e=>.inr (.inr e)) (fun q hq=>.inl hq) (fun e=>hr.out.2 e))
     have EB12:=zH (Y0 (fun q=>C q∨q=rb∨q=eb) kb eb rb ⟨3,m6.next,a,tl,.slice na tn nc,imm⟩ m11 w12) (by rw[h5];exact EB11.out.set (.inr (.inr rfl)) hr.out.1 0 _ rfl EB11.out.goals EB11.out.newer)
     rw[←h5];rw[←Hx]at Hp MV12 SM12 A12 EB12;clear h5 t12 Hx;obtain⟨y0,y1,HU⟩:∃ y0 y1,tl=[y0,y1]:=by
      match tl,hl with
      | [y0,y1],_=>exact⟨y0,y1,rfl⟩
     subst HU;obtain⟨B2,off2,ac2,hY⟩:=Wl A12.out.goals.1 (Nat.succ_pos _);dsimp only[List.length_cons,List.length_nil,Nat.reduceAdd]at hY;subst hY;refine Zh 9 rfl zaC zaC zaC zaJ
      [Is (.pointer (some ⟨tb,2,none⟩)),Is (.slice (some ⟨B2,off2,none⟩) 2 ac2),Is (.pointer (some ⟨B2,off2+1,none⟩)),Is (.int .i64 y1),Is (.pointer (some ⟨tb,2,none⟩)),Is (.slice (some ⟨B2,off2,none⟩) 2 ac2),Is (.pointer (some ⟨B2,off2,none⟩)),Is (.int .i64 y0),JE w12 y1 y0]
      (by repeat (first | exact trivial | refine⟨Is.stable _,?_⟩ | refine⟨JE.stable _ _ _,?_⟩)) ⟨?_,?_,?_,?_,?_,?_,?_,?_,?_,trivial⟩ ?_
     rotate_right
     ·intro vs w13 hs hk;revert hk;refine zs0 ?_;intro hk
      obtain⟨qn,h8,HX,HF⟩:JE w12 y1 y0 (vs 8) w13:=by exact hk.2.2.2.2.2.2.2.2.1
      simp only[h8];have HS:=zH (Zd w13 (.slice (some ⟨qn,0,none⟩) 2 2) [y1,y0]∧Stays (ZT (fun q=>C q∨q=rb∨q=eb) kb m12) w13 (.slice (some ⟨qn,0,none⟩) 2 2)) ⟨Zcs HF,fun q hq=>by have e:qn=q:=Option.some.inj hq;rw[←e];exact⟨fun h1=>(by have:=Hp.out.ltOwnC h1;omega),HF.lt⟩⟩
      obtain⟨m13,hW⟩:∃ x,x=m12:=⟨_,rfl⟩
      have HC:=hid (Hp.out.keep hs);have MV13:=hid (MV12.out.keep hs);have SM13:=SM12;have A13:=hid (A12.out.keep hs);have EB13:=hid (EB12.out.keep hs);have MV13:=Jk hW MV13;rw[←hW]at HC SM13 A13 EB13;have HK:=zH (Zd w13 (.slice (some ⟨qn,0,none⟩) 2 2) [y1,y0]∧Stays (ZT (fun q=>C q∨q=rb∨q=eb) kb m13) w13 (.slice (some ⟨qn,0,none⟩) 2 2)) (by rw[hW];exact HS.out);have tg:=zH (∀ q,(Value.slice (some ⟨qn,0,none⟩) 2 2).ownBlock=some q→m13.base≤q) (fun q hq=>by have e:qn=q:=Option.some.inj hq;rw[←e,hW];exact Nat.le_trans Hp.out.low HX)
      clear hk hW;have hb:HeapIs w13 eb #[_,_,_,_,_] 32:=EB13.out.box;dsimp only at hb;have hf:=hb.lt;have hh:=hb.frozen;have hp:=hb.cell 0;have hn:=hb.cell 1;have hm:=hb.cell 2;have hj:=hb.cell 3;have hi:=hb.cell 4;clear hb;go_upto_region 28 with fail
      clear hf hh hp hn hm hj hi;clear hs;obtain⟨w14,h3⟩:∃ z,z=w13.setCell ⟨eb,3,none⟩ (.slice (some ⟨qn,0,none⟩) 2 2):=⟨_,rfl⟩
      have t14:Zb (fun q=>q=eb) w13 w14:=by rw[h3];exact (Zb.refl (fun q=>q=eb) w13).setCell (p:=⟨eb,3,none⟩) rfl _
      obtain⟨m14,Hw⟩:∃ x,x=m13:=⟨_,rfl⟩
      have HM:=hid (HC.out.swapC (C':=(fun q=>C q∨q=rb∨q=eb)) t14 (fun q _ e=>.inr (.inr e)) fun q hq=>⟨.inl hq,Nat.lt_of_lt_of_le (HC.out.aside q hq).1 t14.size⟩)
      have MV14:=hid (MV13.out.beside t14 fun q hq=>by rw[hq];exact hD.out);have SM14:=SM13;have A14:=hid (A13.out.swap (C':=(fun q=>C q∨q=rb∨q=eb)) t14 (fun q _ e=>.inr (.inr e)) (fun q hq=>.inl hq) (fun e=>hr.out.2 e))
      have EB14:=zH (Y0 (fun q=>C q∨q=rb∨q=eb) kb eb rb ⟨3,m6.next,a,[y1,y0],.slice (some ⟨qn,0,none⟩) 2 2,imm⟩ m13 w14) (by rw[h3];exact EB13.out.set (.inr (.inr rfl)) hr.out.1 3 _ rfl ⟨HK.out.1,HK.out.2⟩ tg.out)
      rw[←h3];rw[←Hw]at HM MV14 SM14 A14 EB14;clear h3 t14 Hw;have hb:HeapIs w14 eb #[_,_,_,_,_] 32:=EB14.out.box;dsimp only at hb;have hd:HeapIs w14 rb #[.int .i64 0,.int .i64 0,.int .i64 0,.slice none 0 0,.int .i32 0] 32:=EB14.out.res;have hO:=hd.lt;have hP:=hd.frozen;have hT:=hd.cell 0;have hM:=hd.cell 1;have hS:=hd.cell 2;have hR:=hd.cell 3;have hQ:=hd.cell 4;have hC:=hid hd;clear hd;go_wp2_with (refine wpList_load_row rfl _ _ rfl eb rfl 32 _ (0,0) _ hb underlying32 rfl zaF ?_)
      have hy:=((((hC.out.set 0 (.int .i64 (3))).set 1 (.int .i64 (m6.next))).set 2 (.int .i64 (a))).set 3 (.slice (some ⟨qn,0,none⟩) 2 2)).set 4 (.int .i32 imm);try simp only[Exit.inBlock,Exit.then]
      refine bodyPost_ret (results_cell_row rfl _ _ rb 32 #[.int .i64 (3),.int .i64 (m6.next),.int .i64 (a),.slice (some ⟨qn,0,none⟩) 2 2,.int .i32 imm] (0,0) _ rfl hy underlying32 rfl zaF) rfl ?_;exact XT R1.out.2.2 HM.out MV14.out EB14.out ⟨hB.out.1,(fun x hx=>hB.out.2 x (by simpa [or_comm]using hx)),by dsimp only;omega,by dsimp only;omega,.inr (.inl ⟨.inr (.inl rfl),rfl,by dsimp only;omega⟩)⟩ zaJ zaJ zaJ
     all_goals
      intro vs w13 hs hk _;revert hk;refine zs1 ?_;intro hk
     ·exact kH
     ·exact qH
     ·exact kH
     ·obtain⟨hc,hl⟩:=(A12.out.keep hs).goal (j:=1) rfl (show _=some y1 from rfl);exact kH
     ·exact kH
     ·exact qH
     ·exact kH
     ·obtain⟨hc,hl⟩:=(A12.out.keep hs).goal (j:=0) rfl (show _=some y0 from rfl);rw[Nat.add_zero]at hc;exact kH
     ·exact ji
    ·skip
     have hM:(q==1)=false:=by simpa using Hv
     go_upto_region 28 with fail
     have hb:HeapIs w11 eb #[_,_,_,_,_] 32:=EB11.out.box;dsimp only at hb;have hd:HeapIs w11 rb #[.int .i64 0,.int .i64 0,.int .i64 0,.slice none 0 0,.int .i32 0] 32:=EB11.out.res;have hO:=hd.lt;have hP:=hd.frozen;have hT:=hd.cell 0;have hM:=hd.cell 1;have hS:=hd.cell 2;have hR:=hd.cell 3;have hQ:=hd.cell 4;have hC:=hid hd;clear hd;go_wp2_with (refine wpList_load_row rfl _ _ rfl eb rfl 32 _ (0,0) _ hb underlying32 rfl zaF ?_)
     have hy:=((((hC.out.set 0 (.int .i64 (5))).set 1 (.int .i64 (m6.next))).set 2 (.int .i64 (a))).set 3 (.slice na tn nc)).set 4 (.int .i32 imm);try simp only[Exit.inBlock,Exit.then]
     refine bodyPost_ret (results_cell_row rfl _ _ rb 32 #[.int .i64 (5),.int .i64 (m6.next),.int .i64 (a),.slice na tn nc,.int .i32 imm] (0,0) _ rfl hy underlying32 rfl zaF) rfl ?_;exact XT R1.out.2.2 Hq.out MV11.out EB11.out ⟨hB.out.1,hB.out.2,by dsimp only;omega,by dsimp only;omega,by dsimp only;omega⟩ zaJ zaJ zaJ
  ·skip
   subst o;obtain⟨a,He⟩:∃ a,args=[a]:=by
    match args,Hf with
    | [a],_=>exact⟨a,rfl⟩
   subst He;have ha:=Hc a zaL;obtain⟨B,off,ac,hG⟩:=Wl A3.out.args.1 (Nat.succ_pos _);dsimp only[List.length_cons,List.length_nil,Nat.reduceAdd]at hG;subst hG;have he:HeapIs w3 tb #[_,_,_,_] 175:=A3.out.box;dsimp only at he;have hJ:=he.cell 0;have hA:=he.lt;clear he;have hb:HeapIs w3 eb #[_,_,_,_,_] 32:=EB3.out.box;dsimp only at hb;have hf:=hb.lt;have hh:=hb.frozen;have hp:=hb.cell 0;have hn:=hb.cell 1;have hm:=hb.cell 2;have hj:=hb.cell 3;have hi:=hb.cell 4;clear hb;go_upto_region 22 with fail
   clear hf hh hp hn hm hj hi;obtain⟨w4,hw⟩:∃ z,z=w3.setCell ⟨eb,0,none⟩ (.int .i64 6):=⟨_,rfl⟩
   have t4:Zb (fun q=>q=eb) w3 w4:=by rw[hw];exact (Zb.refl (fun q=>q=eb) w3).setCell (p:=⟨eb,0,none⟩) rfl _
   obtain⟨m4,hF⟩:∃ x,x=m3:=⟨_,rfl⟩
   have H4:=hid (H3.out.swapC (C':=(fun q=>C q∨q=rb∨q=eb)) t4 (fun q _ e=>.inr (.inr e)) fun q hq=>⟨.inl hq,Nat.lt_of_lt_of_le (H3.out.aside q hq).1 t4.size⟩)
   have MV4:=hid (MV3.out.beside t4 fun q hq=>by rw[hq];exact hD.out);have SM4:=SM3;have A4:=hid (A3.out.swap (C':=(fun q=>C q∨q=rb∨q=eb)) t4 (fun q _ e=>.inr (.inr e)) (fun q hq=>.inl hq) (fun e=>hr.out.2 e))
   have EB4:=zH (Y0 (fun q=>C q∨q=rb∨q=eb) kb eb rb ⟨6,0,0,tl,.slice na tn nc,imm⟩ m3 w4) kR
   rw[←hw];rw[←hF]at H4 MV4 SM4 A4 EB4;clear hw t4 hF;clear hJ hA;have hb:HeapIs w4 eb #[_,_,_,_,_] 32:=EB4.out.box;dsimp only at hb;have hf:=hb.lt;have hh:=hb.frozen;have hp:=hb.cell 0;have hn:=hb.cell 1;have hm:=hb.cell 2;have hj:=hb.cell 3;have hi:=hb.cell 4;clear hb;have he:HeapIs w4 tb #[_,_,_,_] 175:=A4.out.box;dsimp only at he;have hI:=he.cell 1;have hA:=he.lt;clear he;obtain⟨ho,hU⟩:=A4.out.arg (j:=0) rfl (show _=some a from rfl);rw[Nat.add_zero]at ho;go_upto_region 28 with fail
   clear hf hh hp hn hm hj hi;clear hI hA ho hU;obtain⟨w5,hE⟩:∃ z,z=w4.setCell ⟨eb,1,none⟩ (.int .i64 a):=⟨_,rfl⟩
   have t5:Zb (fun q=>q=eb) w4 w5:=by rw[hE];exact (Zb.refl (fun q=>q=eb) w4).setCell (p:=⟨eb,1,none⟩) rfl _
   obtain⟨m5,hN⟩:∃ x,x=m4:=⟨_,rfl⟩
   have H5:=hid (H4.out.swapC (C':=(fun q=>C q∨q=rb∨q=eb)) t5 (fun q _ e=>.inr (.inr e)) fun q hq=>⟨.inl hq,Nat.lt_of_lt_of_le (H4.out.aside q hq).1 t5.size⟩)
   have MV5:=hid (MV4.out.beside t5 fun q hq=>by rw[hq];exact hD.out);have SM5:=SM4;have A5:=hid (A4.out.swap (C':=(fun q=>C q∨q=rb∨q=eb)) t5 (fun q _ e=>.inr (.inr e)) (fun q hq=>.inl hq) (fun e=>hr.out.2 e))
   have EB5:=zH (Y0 (fun q=>C q∨q=rb∨q=eb) kb eb rb ⟨6,a,0,tl,.slice na tn nc,imm⟩ m4 w5) kS
   rw[←hE];rw[←hN]at H5 MV5 SM5 A5 EB5;clear hE t5 hN;have hb:HeapIs w5 eb #[_,_,_,_,_] 32:=EB5.out.box;dsimp only at hb;have hd:HeapIs w5 rb #[.int .i64 0,.int .i64 0,.int .i64 0,.slice none 0 0,.int .i32 0] 32:=EB5.out.res;have hO:=hd.lt;have hP:=hd.frozen;have hT:=hd.cell 0;have hM:=hd.cell 1;have hS:=hd.cell 2;have hR:=hd.cell 3;have hQ:=hd.cell 4;have hC:=hid hd;clear hd;go_wp2_with (refine wpList_load_row rfl _ _ rfl eb rfl 32 _ (0,0) _ hb underlying32 rfl zaF ?_)
   have hy:=((((hC.out.set 0 (.int .i64 (6))).set 1 (.int .i64 (a))).set 2 (.int .i64 (0))).set 3 (.slice na tn nc)).set 4 (.int .i32 imm);try simp only[Exit.inBlock,Exit.then]
   refine bodyPost_ret (results_cell_row rfl _ _ rb 32 #[.int .i64 (6),.int .i64 (a),.int .i64 (0),.slice na tn nc,.int .i32 imm] (0,0) _ rfl hy underlying32 rfl zaF) rfl ?_;exact qL
  ·skip
   subst o;have he:HeapIs w3 tb #[_,_,_,_] 175:=A3.out.box;dsimp only at he;have hJ:=he.cell 0;have hA:=he.lt;clear he;have hb:HeapIs w3 eb #[_,_,_,_,_] 32:=EB3.out.box;dsimp only at hb;have hf:=hb.lt;have hh:=hb.frozen;have hp:=hb.cell 0;have hn:=hb.cell 1;have hm:=hb.cell 2;have hj:=hb.cell 3;have hi:=hb.cell 4;clear hb;go_upto_region 25 with fail
   clear hf hh hp hn hm hj hi;obtain⟨w4,hw⟩:∃ z,z=w3.setCell ⟨eb,0,none⟩ (.int .i64 7):=⟨_,rfl⟩
   have t4:Zb (fun q=>q=eb) w3 w4:=by rw[hw];exact (Zb.refl (fun q=>q=eb) w3).setCell (p:=⟨eb,0,none⟩) rfl _
   obtain⟨m4,hF⟩:∃ x,x=m3:=⟨_,rfl⟩
   have H4:=hid (H3.out.swapC (C':=(fun q=>C q∨q=rb∨q=eb)) t4 (fun q _ e=>.inr (.inr e)) fun q hq=>⟨.inl hq,Nat.lt_of_lt_of_le (H3.out.aside q hq).1 t4.size⟩)
   have MV4:=hid (MV3.out.beside t4 fun q hq=>by rw[hq];exact hD.out);have SM4:=SM3;have A4:=hid (A3.out.swap (C':=(fun q=>C q∨q=rb∨q=eb)) t4 (fun q _ e=>.inr (.inr e)) (fun q hq=>.inl hq) (fun e=>hr.out.2 e))
   have EB4:=zH (Y0 (fun q=>C q∨q=rb∨q=eb) kb eb rb ⟨7,0,0,tl,.slice na tn nc,imm⟩ m3 w4) kR
   rw[←hw];rw[←hF]at H4 MV4 SM4 A4 EB4;clear hw t4 hF;clear hJ hA;have hb:HeapIs w4 eb #[_,_,_,_,_] 32:=EB4.out.box;dsimp only at hb;have hf:=hb.lt;have hh:=hb.frozen;have hp:=hb.cell 0;have hn:=hb.cell 1;have hm:=hb.cell 2;have hj:=hb.cell 3;have hi:=hb.cell 4;clear hb;go_upto_region 26 with fail
   clear hf hh hp hn hm hj hi;obtain⟨w5,hE⟩:∃ z,z=w4.setCell ⟨eb,1,none⟩ (.int .i64 (-1)):=⟨_,rfl⟩
   have t5:Zb (fun q=>q=eb) w4 w5:=by rw[hE];exact (Zb.refl (fun q=>q=eb) w4).setCell (p:=⟨eb,1,none⟩) rfl _
   obtain⟨m5,hN⟩:∃ x,x=m4:=⟨_,rfl⟩
   have H5:=hid (H4.out.swapC (C':=(fun q=>C q∨q=rb∨q=eb)) t5 (fun q _ e=>.inr (.inr e)) fun q hq=>⟨.inl hq,Nat.lt_of_lt_of_le (H4.out.aside q hq).1 t5.size⟩)
   have MV5:=hid (MV4.out.beside t5 fun q hq=>by rw[hq];exact hD.out);have SM5:=SM4;have A5:=hid (A4.out.swap (C':=(fun q=>C q∨q=rb∨q=eb)) t5 (fun q _ e=>.inr (.inr e)) (fun q hq=>.inl hq) (fun e=>hr.out.2 e))
   have EB5:=zH (Y0 (fun q=>C q∨q=rb∨q=eb) kb eb rb ⟨7,-1,0,tl,.slice na tn nc,imm⟩ m4 w5) kS
   rw[←hE];rw[←hN]at H5 MV5 SM5 A5 EB5;clear hE t5 hN;obtain⟨aa,aac,hG⟩:=Zc A5.out.args.1;dsimp only at hG;by_cases HI:args.length=0
   ·skip
    rw[HI]at hG;subst hG;have he:HeapIs w5 tb #[_,_,_,_] 175:=A5.out.box;dsimp only at he;have hI:=he.cell 1;have hA:=he.lt;clear he;go_upto_region 28 with fail
    clear hI hA;have hb:HeapIs w5 eb #[_,_,_,_,_] 32:=EB5.out.box;dsimp only at hb;have hd:HeapIs w5 rb #[.int .i64 0,.int .i64 0,.int .i64 0,.slice none 0 0,.int .i32 0] 32:=EB5.out.res;have hO:=hd.lt;have hP:=hd.frozen;have hT:=hd.cell 0;have hM:=hd.cell 1;have hS:=hd.cell 2;have hR:=hd.cell 3;have hQ:=hd.cell 4;have hC:=hid hd;clear hd;go_wp2_with (refine wpList_load_row rfl _ _ rfl eb rfl 32 _ (0,0) _ hb underlying32 rfl zaF ?_)
    have hy:=((((hC.out.set 0 (.int .i64 (7))).set 1 (.int .i64 (-1))).set 2 (.int .i64 (0))).set 3 (.slice na tn nc)).set 4 (.int .i32 imm);try simp only[Exit.inBlock,Exit.then]
    refine bodyPost_ret (results_cell_row rfl _ _ rb 32 #[.int .i64 (7),.int .i64 (-1),.int .i64 (0),.slice na tn nc,.int .i32 imm] (0,0) _ rfl hy underlying32 rfl zaF) rfl ?_;exact qL
   ·skip
    obtain⟨a,He⟩:∃ a,args=[a]:=by
     match args,Hf,HI with
     | [a],_,_=>exact⟨a,rfl⟩
     | [],_,h=>exact absurd rfl h
    subst He;have ha:=Hc a zaL;obtain⟨B,off,ac,hY⟩:=Wl A5.out.args.1 (Nat.succ_pos _);dsimp only[List.length_cons,List.length_nil,Nat.reduceAdd]at hY;subst hY;clear hG;have he:HeapIs w5 tb #[_,_,_,_] 175:=A5.out.box;dsimp only at he;have hI:=he.cell 1;have hA:=he.lt;clear he;obtain⟨ho,hU⟩:=A5.out.arg (j:=0) rfl (show _=some a from rfl);rw[Nat.add_zero]at ho;go_wp2_with fail
    clear hI hA ho hU;refine (WE H5.out (SM5.out.mono zaJ) (a) ⟨zaK,zaK⟩).mono ?_;rintro e w6 ⟨m6,⟨x,rfl,ti,th⟩,h6,mv6⟩;have H6:=hid h6;have MV6:=hid (MV5.out.trans mv6);have SM6:=hid (SM5.out.mv mv6);have A6:=hid (A5.out.mv mv6);have EB6:=hid (EB5.out.mv mv6);clear h6 mv6;have hb:HeapIs w6 eb #[_,_,_,_,_] 32:=EB6.out.box;dsimp only at hb;have hf:=hb.lt;have hh:=hb.frozen;have hp:=hb.cell 0;have hn:=hb.cell 1;have hm:=hb.cell 2;have hj:=hb.cell 3;have hi:=hb.cell 4;clear hb;go_upto_region 28 with fail
    clear hf hh hp hn hm hj hi;obtain⟨w7,Hl⟩:∃ z,z=w6.setCell ⟨eb,1,none⟩ (.int .i64 x):=⟨_,rfl⟩
    have t7:Zb (fun q=>q=eb) w6 w7:=by rw[Hl];exact (Zb.refl (fun q=>q=eb) w6).setCell (p:=⟨eb,1,none⟩) rfl _
    obtain⟨m7,Hn⟩:∃ x,x=m6:=⟨_,rfl⟩
    have H7:=hid (H6.out.swapC (C':=(fun q=>C q∨q=rb∨q=eb)) t7 (fun q _ e=>.inr (.inr e)) fun q hq=>⟨.inl hq,Nat.lt_of_lt_of_le (H6.out.aside q hq).1 t7.size⟩)
    have MV7:=hid (MV6.out.beside t7 fun q hq=>by rw[hq];exact hD.out);have SM7:=SM6;have A7:=hid (A6.out.swap (C':=(fun q=>C q∨q=rb∨q=eb)) t7 (fun q _ e=>.inr (.inr e)) (fun q hq=>.inl hq) (fun e=>hr.out.2 e))
    have EB7:=zH (Y0 (fun q=>C q∨q=rb∨q=eb) kb eb rb ⟨7,x,0,tl,.slice na tn nc,imm⟩ m6 w7) (by rw[Hl];exact EB6.out.set (.inr (.inr rfl)) hr.out.1 1 _ rfl EB6.out.goals EB6.out.newer)
    rw[←Hl];rw[←Hn]at H7 MV7 SM7 A7 EB7;clear Hl t7 Hn;have hb:HeapIs w7 eb #[_,_,_,_,_] 32:=EB7.out.box;dsimp only at hb;have hd:HeapIs w7 rb #[.int .i64 0,.int .i64 0,.int .i64 0,.slice none 0 0,.int .i32 0] 32:=EB7.out.res;have hO:=hd.lt;have hP:=hd.frozen;have hT:=hd.cell 0;have hM:=hd.cell 1;have hS:=hd.cell 2;have hR:=hd.cell 3;have hQ:=hd.cell 4;have hC:=hid hd;clear hd;go_wp2_with (refine wpList_load_row rfl _ _ rfl eb rfl 32 _ (0,0) _ hb underlying32 rfl zaF ?_)
    have hy:=((((hC.out.set 0 (.int .i64 (7))).set 1 (.int .i64 (x))).set 2 (.int .i64 (0))).set 3 (.slice na tn nc)).set 4 (.int .i32 imm);try simp only[Exit.inBlock,Exit.then]
    refine bodyPost_ret (results_cell_row rfl _ _ rb 32 #[.int .i64 (7),.int .i64 (x),.int .i64 (0),.slice na tn nc,.int .i32 imm] (0,0) _ rfl hy underlying32 rfl zaF) rfl ?_;exact XT R1.out.2.2 H7.out MV7.out EB7.out ⟨hB.out.1,hB.out.2,by dsimp only;omega,by dsimp only;omega,by dsimp only;omega⟩ zaJ zaJ zaJ
  ·skip
   subst o;have he:HeapIs w3 tb #[_,_,_,_] 175:=A3.out.box;dsimp only at he;have hJ:=he.cell 0;have hA:=he.lt;clear he;have hb:HeapIs w3 eb #[_,_,_,_,_] 32:=EB3.out.box;dsimp only at hb;have hf:=hb.lt;have hh:=hb.frozen;have hp:=hb.cell 0;have hn:=hb.cell 1;have hm:=hb.cell 2;have hj:=hb.cell 3;have hi:=hb.cell 4;clear hb;go_upto_region 28 with fail
   clear hf hh hp hn hm hj hi;obtain⟨w4,hw⟩:∃ z,z=w3.setCell ⟨eb,0,none⟩ (.int .i64 8):=⟨_,rfl⟩
   have t4:Zb (fun q=>q=eb) w3 w4:=by rw[hw];exact (Zb.refl (fun q=>q=eb) w3).setCell (p:=⟨eb,0,none⟩) rfl _
   obtain⟨m4,hF⟩:∃ x,x=m3:=⟨_,rfl⟩
   have H4:=hid (H3.out.swapC (C':=(fun q=>C q∨q=rb∨q=eb)) t4 (fun q _ e=>.inr (.inr e)) fun q hq=>⟨.inl hq,Nat.lt_of_lt_of_le (H3.out.aside q hq).1 t4.size⟩)
   have MV4:=hid (MV3.out.beside t4 fun q hq=>by rw[hq];exact hD.out);have SM4:=SM3;have A4:=hid (A3.out.swap (C':=(fun q=>C q∨q=rb∨q=eb)) t4 (fun q _ e=>.inr (.inr e)) (fun q hq=>.inl hq) (fun e=>hr.out.2 e))
   have EB4:=zH (Y0 (fun q=>C q∨q=rb∨q=eb) kb eb rb ⟨8,0,0,tl,.slice na tn nc,imm⟩ m3 w4) kR
   rw[←hw];rw[←hF]at H4 MV4 SM4 A4 EB4;clear hw t4 hF;clear hJ hA;have hb:HeapIs w4 eb #[_,_,_,_,_] 32:=EB4.out.box;dsimp only at hb;have hd:HeapIs w4 rb #[.int .i64 0,.int .i64 0,.int .i64 0,.slice none 0 0,.int .i32 0] 32:=EB4.out.res;have hO:=hd.lt;have hP:=hd.frozen;have hT:=hd.cell 0;have hM:=hd.cell 1;have hS:=hd.cell 2;have hR:=hd.cell 3;have hQ:=hd.cell 4;have hC:=hid hd;clear hd;go_wp2_with (refine wpList_load_row rfl _ _ rfl eb rfl 32 _ (0,0) _ hb underlying32 rfl zaF ?_)
   have hy:=((((hC.out.set 0 (.int .i64 (8))).set 1 (.int .i64 (0))).set 2 (.int .i64 (0))).set 3 (.slice na tn nc)).set 4 (.int .i32 imm);try simp only[Exit.inBlock,Exit.then]
   refine bodyPost_ret (results_cell_row rfl _ _ rb 32 #[.int .i64 (8),.int .i64 (0),.int .i64 (0),.slice na tn nc,.int .i32 imm] (0,0) _ rfl hy underlying32 rfl zaF) rfl ?_;exact qK
 all_goals
  intro vs w2 hs hk _;revert hk;refine zs1 ?_;intro hk
 ·exact jz
 ·exact kH
 ·have he:HeapIs w2 tb #[_,_,_,_] 175:=(A1.out.keep hs).box;dsimp only at he;have hc:=he.cell 2;have hl:=he.lt;clear he;exact kH
 ·have hz:=hs.size;have HP:IsNilOf 3 w1 (vs 0) w2:=hk.1;have hG:vs 2=tov:=hk.2.1;have HN:=VD (A1.out.keep hs).goals.1;generalize vs 0=v5 at *;generalize vs 2=v7 at *;subst hG;clear hk;refine Z7 (w0:=w1) rfl _ _ 22 rfl 3 (.int .i64 0) 1 8 underlying22 Tryz.info3 rfl zaJ zaJ v5 v7 tl.length (tl.map (Value.int .i64)) rfl rfl HP HN zaL td.out (fun u hu=>by obtain⟨z,_,rfl⟩:=List.mem_map.1 hu;rfl) hz ?_;intro v' w3 HO HW;go_wp2
  exact⟨_,rfl,HO,HW⟩
 ·exact kH
 ·have he:HeapIs w2 tb #[_,_,_,_] 175:=(A1.out.keep hs).box;dsimp only at he;have hc:=he.cell 3;have hl:=he.lt;clear he;exact kH
 ·have h8:Yx 3 w1 tl (vs 3) w2:=by exact hk.1
  have h4:vs 5=.int .i32 imm:=by exact hk.2.1
  generalize vs 3=v8 at *;obtain⟨na,nc,Hs⟩:=Ze (show w2.ownsRow _ _ _ _ _ _ from h8);subst Hs;clear hk;go_wp2
  exact⟨_,rfl,⟨_,rfl,h8⟩,.refl _⟩
 ·exact ji
end
end Go.Proofs.YtimpddecdodddaaGreat
