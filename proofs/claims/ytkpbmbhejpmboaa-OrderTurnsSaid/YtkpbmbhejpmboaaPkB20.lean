/- jacquardref07's maker: end. -/
import Derived.Test.YtkpbmbhejpmboaaPkB15
import Derived.Test.YtkpbmbhejpmboaaPkB19
namespace Go.Proofs.Ytkpbmbhejpmboaa
open Go.RowKit
set_option linter.unusedVariables false
def tmv (x:FTerm):Value:=.agg #[.int .i64 x.kind,x.argsv,x.tov,.int .i32 x.imm]
def edv (e:EndV):Value:=.agg #[.int .i64 e.op,.int .i64 e.a,.int .i64 e.b,e.tov,.int .i32 e.imm]
def edcells (e:EndV):List Value:=[.int .i64 e.op,.int .i64 e.a,.int .i64 e.b,e.tov,.int .i32 e.imm]
structure EGood7 (n:Nat) (e:EndV):Prop where
 imm:In32 e.imm
 goals:∀ x∈e.to,1≤x∧x<(n:Int)
 a : -1≤e.a∧e.a<10000
 b:0≤e.b∧e.b<10000
 op:(e.op=1∧e.to.length=1∧0≤e.a)∨((e.op=2∨e.op=3∨e.op=5)∧e.to.length=2∧0≤e.a)∨(e.op=6∧(2≤e.to.length∧e.to.length≤65)∧0≤e.a)∨(e.op=7∧e.to.length=0)∨(e.op=8∧e.to.length=0∧0≤e.a)
structure TArg (C:Nat→Prop) (kb tb:Nat) (t:FTerm) (m:K7) (w:World):Prop where
 box:HeapIs w tb (ftcells t).toArray 176
 apart:¬ Own7 kb m tb
 args:Ints w t.argsv t.args∧Stays (OwnC7 C kb m) w t.argsv
 goals:Ints w t.tov t.to∧Stays (OwnC7 C kb m) w t.tov
theorem TArg.mv {C : Nat→Prop} {kb tb:Nat} {t : FTerm} {m m':K7} {w w':World} {a n i:Nat} (h:TArg C kb tb t m w) (v:Mv7 kb w m w' m' a n i):TArg C kb tb t m' w':=
 ⟨v.heap h.box h.apart,fun hq=>by
  rcases v.new tb hq with h1|h1
  ·exact h.apart h1
  ·have:=h.box.lt;omega,⟨v.nums h.args.1 h.args.2,v.stays h.args.2⟩,v.nums h.goals.1 h.goals.2,v.stays h.goals.2⟩
theorem TArg.keep {C : Nat→Prop} {kb tb:Nat} {t : FTerm} {m : K7} {w w':World} (h:TArg C kb tb t m w) (s:Since w w'):TArg C kb tb t m w':=⟨h.box.keep s,h.apart,⟨h.args.1.keep s,h.args.2.keep s⟩,h.goals.1.keep s,h.goals.2.keep s⟩
theorem TArg.swap {C C' T:Nat→Prop} {kb tb:Nat} {t : FTerm} {m : K7} {w w':World} (h:TArg C kb tb t m w) (tn:Turn T w w') (hT:∀ q,q<w.heap.size→T q→C q) (hC:∀ q,C' q→C q∨w.heap.size≤q) (hb:¬ T tb):TArg C' kb tb t m w':=by
 have hS:∀ q,OwnC7 C' kb m q→OwnC7 C kb m q∨w.heap.size≤q:=by
  rintro q (hq|hq)
  ·exact .inl (.inl hq)
  ·rcases hC q hq with h1|h1
   ·exact .inl (.inr h1)
   ·exact .inr h1
 have hst:∀ {v : Value},Stays (OwnC7 C kb m) w v→∀ q,v.ownBlock=some q→¬ T q:=fun hv q hq e=>(hv q hq).1 (.inr (hT q (hv q hq).2 e))
 exact⟨h.box.turn tn hb,h.apart,⟨h.args.1.turn tn (hst h.args.2),h.args.2.mono hS tn.size⟩,h.goals.1.turn tn (hst h.goals.2),h.goals.2.mono hS tn.size⟩
theorem TArg.arg {C : Nat→Prop} {kb tb:Nat} {t : FTerm} {m : K7} {w : World} (h:TArg C kb tb t m w) {B off n ac:Nat} (hv:t.argsv=.slice (some ⟨B,off,none⟩) n ac) {j : Nat} {v : Int} (hj:t.args[j]? = some v):w.cell? ⟨B,off+j,none⟩=some (.int .i64 v)∧B<w.heap.size:=by
 rcases h.args.1 with ⟨a,h1,h2⟩|⟨b,o,cap,h1,_,_,h4,h5⟩
 ·rw[h2]at hj;cases hj
 ·rw[hv]at h1
  cases h1
  exact⟨h5 j v hj,h4⟩
theorem TArg.goal {C : Nat→Prop} {kb tb:Nat} {t : FTerm} {m : K7} {w : World} (h:TArg C kb tb t m w) {B off n ac:Nat} (hv:t.tov=.slice (some ⟨B,off,none⟩) n ac) {j : Nat} {v : Int} (hj:t.to[j]? = some v):w.cell? ⟨B,off+j,none⟩=some (.int .i64 v)∧B<w.heap.size:=by
 rcases h.goals.1 with ⟨a,h1,h2⟩|⟨b,o,cap,h1,_,_,h4,h5⟩
 ·rw[h2]at hj;cases hj
 ·rw[hv]at h1
  cases h1
  exact⟨h5 j v hj,h4⟩
structure EBox (C:Nat→Prop) (kb eb rb:Nat) (e:EndV) (m:K7) (w:World):Prop where
 box:HeapIs w eb (edcells e).toArray 53
 res:HeapIs w rb #[.int .i64 0,.int .i64 0,.int .i64 0,.slice none 0 0,.int .i32 0] 53
 apart:¬ Own7 kb m eb∧¬ Own7 kb m rb
 goals:Ints w e.tov e.to∧Stays (OwnC7 C kb m) w e.tov
 newer:∀ q,e.tov.ownBlock=some q→m.base≤q
theorem EBox.mv {C : Nat→Prop} {kb eb rb:Nat} {e : EndV} {m m':K7} {w w':World} {a n i:Nat} (h:EBox C kb eb rb e m w) (v:Mv7 kb w m w' m' a n i):EBox C kb eb rb e m' w':=
 ⟨v.heap h.box h.apart.1,v.heap h.res h.apart.2,⟨fun hq=>by
  rcases v.new eb hq with h1|h1
  ·exact h.apart.1 h1
  ·have:=h.box.lt;omega,fun hq=>by
  rcases v.new rb hq with h1|h1
  ·exact h.apart.2 h1
  ·have:=h.res.lt;omega⟩,⟨v.nums h.goals.1 h.goals.2,v.stays h.goals.2⟩,by rw[v.base];exact h.newer⟩
theorem EBox.keep {C : Nat→Prop} {kb eb rb:Nat} {e : EndV} {m : K7} {w w':World} (h:EBox C kb eb rb e m w) (s:Since w w'):EBox C kb eb rb e m w':=⟨h.box.keep s,h.res.keep s,h.apart,⟨h.goals.1.keep s,h.goals.2.keep s⟩,h.newer⟩
theorem EBox.set {C : Nat→Prop} {kb eb rb:Nat} {e e':EndV} {m : K7} {w : World} (h:EBox C kb eb rb e m w) (hC:C eb) (hne:rb≠eb) (j:Nat) (v:Value) (he:(edcells e).toArray.setIfInBounds j v=(edcells e').toArray) (hto:Ints w e'.tov e'.to∧Stays (OwnC7 C kb m) w e'.tov) (hnw:∀ q,e'.tov.ownBlock=some q→m.base≤q):EBox C kb eb rb e' m (w.setCell ⟨eb,j,none⟩ v):=by
 have t:Turn (fun q=>q=eb) w (w.setCell ⟨eb,j,none⟩ v):=(Turn.refl (fun q=>q=eb) w).setCell (p:=⟨eb,j,none⟩) rfl _
 have h1:=h.box.set j v
 rw[he]at h1
 exact⟨h1,h.res.turn t hne,h.apart,⟨hto.1.turn t (fun q hq e=>(hto.2 q hq).1 (.inr (e ▸ hC))),hto.2.mono (fun _ hq=>.inl hq) t.size⟩,hnw⟩
def NewEnd (w0:World) (imm:Int) (xs:List Int) (v:Value) (w:World):Prop:=∃ v3,v=.agg #[.int .i64 0,.int .i64 0,.int .i64 0,v3,.int .i32 imm]∧NewNums 3 w0 xs v3 w
theorem NewEnd.stable (w0:World) (imm:Int) (xs:List Int):Stable (NewEnd w0 imm xs):=fun v w w' ⟨v3,h1,h2⟩ s=>⟨v3,h1,NewNums.stable _ _ _ v3 w w' h2 s⟩
def NewBoxE (w0:World) (v:Value) (w:World):Prop:=∃ b,v=.pointer (some ⟨b,0,none⟩)∧w0.heap.size≤b∧HeapIs w b #[.int .i64 0,.int .i64 0,.int .i64 0,.slice none 0 0,.int .i32 0] 53
theorem NewBoxE.stable (w0:World):Stable (NewBoxE w0):=fun v w w' ⟨b,h1,h2,h3⟩ s=>⟨b,h1,h2,h3.keep s⟩
def EndQ7 (C:Nat→Prop) (kb:Nat) (sv:Value) (l:List Int) (w:World) (m:K7) (n:Nat) (e:Ending) (w':World):Prop:=
 ∃ (m':K7) (ev:EndV),e=.returned (edv ev)∧EGood7 n ev∧K7Ok C kb sv l m' w'∧Mv7 kb w m w' m' 2 1 2∧(Ints w' ev.tov ev.to∧Stays (OwnC7 C kb m') w' ev.tov)∧∀ q,ev.tov.ownBlock=some q→m'.base≤q
theorem end7_fin {C : Nat→Prop} {kb eb rb:Nat} {e : EndV} {sv:Value} {l : List Int} {m0 m:K7} {w wn:World} {n a b c:Nat} (hlo:w.heap.size≤rb) (H:K7Ok (fun q=>C q∨q=rb∨q=eb) kb sv l m wn) (MV:Mv7 kb w m0 wn m a b c) (EB:EBox (fun q=>C q∨q=rb∨q=eb) kb eb rb e m wn) (hg:EGood7 n e) (ha:a≤2) (hb:b≤1) (hc:c≤2) :
  EndQ7 C kb sv l w m0 n (.returned (edv e)) (((((wn.setCell ⟨rb,0,none⟩ (.int .i64 e.op)).setCell ⟨rb,1,none⟩ (.int .i64 e.a)).setCell ⟨rb,2,none⟩ (.int .i64 e.b)).setCell ⟨rb,3,none⟩ e.tov).setCell ⟨rb,4,none⟩ (.int .i32 e.imm)):=by
 have t:Turn (fun q=>q=rb) wn (((((wn.setCell ⟨rb,0,none⟩ (.int .i64 e.op)).setCell ⟨rb,1,none⟩ (.int .i64 e.a)).setCell ⟨rb,2,none⟩ (.int .i64 e.b)).setCell ⟨rb,3,none⟩ e.tov).setCell ⟨rb,4,none⟩ (.int .i32 e.imm)):=(((((Turn.refl (fun q=>q=rb) wn).setCell (p:=⟨rb,0,none⟩) rfl _).setCell (p:=⟨rb,1,none⟩) rfl _).setCell (p:=⟨rb,2,none⟩) rfl _).setCell (p:=⟨rb,3,none⟩) rfl _).setCell (p:=⟨rb,4,none⟩) rfl _
 have hS:∀ q,OwnC7 C kb m q→OwnC7 (fun q=>C q∨q=rb∨q=eb) kb m q∨wn.heap.size≤q:=by
  rintro q (h1|h1)
  ·exact .inl (.inl h1)
  ·exact .inl (.inr (.inl h1))
 refine⟨m,e,rfl,hg,H.swapC t (fun q _ e=>.inr (.inl e)) (fun q hq=>⟨.inl (.inl hq),Nat.lt_of_lt_of_le (H.aside q (.inl hq)).1 t.size⟩),(MV.beside t fun q hq=>by rw[hq];exact hlo).more ha hb hc,⟨EB.goals.1.turn t (fun q hq e=>(EB.goals.2 q hq).1 (.inr (.inr (.inl e)))),EB.goals.2.mono hS t.size⟩,EB.newer⟩
def NewTwo (w0:World) (a b:Int) (v:Value) (w:World):Prop:=∃ q,v=.slice (some ⟨q,0,none⟩) 2 2∧w0.heap.size≤q∧HeapIs w q #[.int .i64 a,.int .i64 b] 3
theorem NewTwo.stable (w0:World) (a b:Int):Stable (NewTwo w0 a b):=fun v w w' ⟨q,h1,h2,h3⟩ s=>⟨q,h1,h2,h3.keep s⟩
theorem two_ints7 {w : World} {q : Nat} {a b:Int} {T : TypeId} (h:HeapIs w q #[.int .i64 a,.int .i64 b] T):Ints w (.slice (some ⟨q,0,none⟩) 2 2) [a,b]:=by
 refine .inr ⟨q,0,2,rfl,Nat.le_refl 2,by unfold maxLen;omega,h.lt,fun j n hj=>?_⟩
 match j,hj with
 | 0,hj=>cases hj;exact h.cell 0
 | 1,hj=>cases hj;exact h.cell 1
section
variable {C : Nat→Prop} {kb:Nat} {sv:Value} {l : List Int} {m : K7} {w : World}
set_option maxHeartbeats 1000000 in
set_option maxRecDepth 100000 in
theorem k7_end (h:K7Ok C kb sv l m w) (hs:Sm7 40 m) (t:FTerm) (n:Nat) (ht:(Ints w t.argsv t.args∧Stays (OwnC7 C kb m) w t.argsv)∧Ints w t.tov t.to∧Stays (OwnC7 C kb m) w t.tov) (hg:TermGood 700 n t) :
  Calls Try.prog 119 #[.pointer (some ⟨kb,0,none⟩),tmv t] w (EndQ7 C kb sv l w m n):=by
 obtain⟨kind,args,argsv,tl,tov,imm⟩:=t
 dsimp only at ht
 have himm:In32 imm:=hg.1
 have hargs:∀ a∈args,0≤a∧a<700:=hg.2.1
 have hto:∀ x∈tl,1≤x∧x<(n:Int):=hg.2.2.1
 have hk:=hg.2.2.2
 dsimp only at hk
 have HKK:=Lib.hid hk
 clear hk
 have HGT:=Lib.hid (And.intro himm hto)
 clear hg
 unfold tmv
 dsimp only
 obtain⟨m0,hm0⟩:∃ x,x=m:=⟨_,rfl⟩
 subst hm0
 obtain⟨w1,hw1⟩:∃ z,z=(w.alloc (.cells (ftcells ⟨kind,args,argsv,tl,tov,imm⟩).toArray 176)).alloc (.cells #[.int .i64 0,.int .i64 0,.int .i64 0,.slice none 0 0,.int .i32 0] 53):=⟨_,rfl⟩
 have hs1:Since w w1:=by rw[hw1];exact ((Since.refl w).alloc _).alloc _
 have HH:=Lib.hid h
 have HTT:=Lib.hid ht
 have HSW:=Lib.hid hs1
 have H1:=Lib.hid (h.keep hs1)
 have MV1:=Lib.hid ((Mv7.refl kb w m0).keep hs1)
 have SM1:=Lib.hid hs
 obtain⟨tb,htb⟩:∃ z,z=w.heap.size:=⟨_,rfl⟩
 obtain⟨rb,hrb⟩:∃ z,z=w.heap.size+1:=⟨_,rfl⟩
 have A1:=Lib.hid (show TArg C kb tb ⟨kind,args,argsv,tl,tov,imm⟩ m0 w1 from⟨by rw[hw1,htb];exact (HeapIs.new _ _ _).keep ((Since.refl _).alloc _),fun hq=>by have:=h.ltOwn hq;omega,⟨ht.1.1.keep hs1,ht.1.2.keep hs1⟩,ht.2.1.keep hs1,ht.2.2.keep hs1⟩)
 have R1:=Lib.hid (show HeapIs w1 rb #[.int .i64 0,.int .i64 0,.int .i64 0,.slice none 0 0,.int .i32 0] 53∧¬ Own7 kb m0 rb∧w.heap.size≤rb from⟨by rw[hw1,hrb];have h9:=HeapIs.new (w.alloc (.cells (ftcells ⟨kind,args,argsv,tl,tov,imm⟩).toArray 176)) #[.int .i64 0,.int .i64 0,.int .i64 0,.slice none 0 0,.int .i32 0] 53;rw[show (w.alloc (.cells (ftcells ⟨kind,args,argsv,tl,tov,imm⟩).toArray 176)).heap.size=w.heap.size+1 from by simp]at h9;exact h9,fun hq=>by have:=h.ltOwn hq;omega,by omega⟩)
 have HTL:=Lib.hid (show tl.length≤100000 from by have h9:=HKK.out;omega)
 clear h hs ht hs1
 go_enter Try.func119,Try.ntmps119
 go_upto_region 1 with fail
 rw[show (.cells #[.int .i64 kind,argsv,tov,.int .i32 imm] 176:Obj)=.cells (ftcells ⟨kind,args,argsv,tl,tov,imm⟩).toArray 176 from rfl,←hw1,←hrb,←htb]
 have HW1:=Lib.hid (show w.heap.size≤w1.heap.size from by rw[hw1];simp;omega)
 clear hw1 htb hrb
 refine wp_region_since_tail 8 rfl (by decide +kernel) (by decide +kernel) (by decide +kernel) (by decide)
  [IsNilOf 3 w1,Is (.pointer (some ⟨tb,2,none⟩)),Is tov,NewNums 3 w1 tl,Is (.pointer (some ⟨tb,3,none⟩)),Is (.int .i32 imm),NewEnd w1 imm tl,NewBoxE w1]
  (by repeat (first | exact trivial | refine⟨Is.stable _,?_⟩ | refine⟨IsNilOf.stable _ _,?_⟩ | refine⟨NewNums.stable _ _ _,?_⟩ | refine⟨NewEnd.stable _ _ _,?_⟩ | refine⟨NewBoxE.stable _,?_⟩)) ⟨?_,?_,?_,?_,?_,?_,?_,?_,trivial⟩ ?_
 rotate_right
 ·intro vs w2 hs hk
  simp only[List.take,List.drop,putAll,Act.put,KnowsAll,nthF,Is,List.setIfInBounds_toArray,List.set_cons_zero,List.set_cons_succ,Nat.reduceAdd]at hk ⊢
  try simp only[hk]
  obtain⟨v3,h6,hv3⟩:NewEnd w1 imm tl (vs 6) w2:=by exact hk.2.2.2.2.2.2.1
  obtain⟨eb,h7,hel,heb⟩:NewBoxE w1 (vs 7) w2:=by exact hk.2.2.2.2.2.2.2.1
  simp only[h6,h7]
  obtain⟨m2,hm2⟩:∃ x,x=m0:=⟨_,rfl⟩
  have H2:=Lib.hid (H1.out.keep hs)
  have MV2:=Lib.hid (MV1.out.keep hs)
  have SM2:=SM1
  have A2:=Lib.hid (A1.out.keep hs)
  have MV2:=mv7_eq hm2 MV2
  rw[←hm2]at H2 SM2 A2
  have hef:=heb.frozen
  have hel2:=heb.lt
  have he0:=heb.cell 0
  have he1:=heb.cell 1
  have he2:=heb.cell 2
  have he3:=heb.cell 3
  have he4:=heb.cell 4
  clear hk
  obtain⟨na,nc,hv8⟩:=own_shape (show w2.ownsRow _ _ _ _ _ _ from hv3)
  subst hv8
  go_upto_region 2 with fail
  have heb2:HeapIs w2 eb #[.int .i64 0,.int .i64 0,.int .i64 0,.slice none 0 0,.int .i32 0] 53:=heb
  have hbox:=((((heb2.set 0 (.int .i64 0)).set 1 (.int .i64 0)).set 2 (.int .i64 0)).set 3 (.slice na tl.length nc)).set 4 (.int .i32 imm)
  obtain⟨w3,hw3⟩:∃ z,z=((((w2.setCell ⟨eb,0,none⟩ (.int .i64 0)).setCell ⟨eb,1,none⟩ (.int .i64 0)).setCell ⟨eb,2,none⟩ (.int .i64 0)).setCell ⟨eb,3,none⟩ (.slice na tl.length nc)).setCell ⟨eb,4,none⟩ (.int .i32 imm):=⟨_,rfl⟩
  have t3:Turn (fun q=>q=eb) w2 w3:=by rw[hw3];exact (((((Turn.refl (fun q=>q=eb) w2).setCell (p:=⟨eb,0,none⟩) rfl _).setCell (p:=⟨eb,1,none⟩) rfl _).setCell (p:=⟨eb,2,none⟩) rfl _).setCell (p:=⟨eb,3,none⟩) rfl _).setCell (p:=⟨eb,4,none⟩) rfl _
  rw[←hw3]at hbox ⊢
  have hsw2:=HSW.out.trans hs
  have hC1:∀ q,(C q∨q=rb∨q=eb)→C q∨w.heap.size≤q:=by
   rintro q (hq|hq|hq)
   ·exact .inl hq
   ·exact .inr (by rw[hq];exact R1.out.2.2)
   ·exact .inr (by rw[hq];have:=HW1.out;omega)
  have hH2:K7Ok (fun q=>C q∨q=rb∨q=eb) kb sv l m2 w2:=by
   rw[hm2]
   refine HH.out.swapC (T:=fun _=>False) (Turn.since hsw2) (fun q _ e=>e.elim) fun q hq=>⟨hC1 q hq,?_⟩
   rcases hq with hq|hq|hq
   ·exact Nat.lt_of_lt_of_le (HH.out.aside q hq).1 hsw2.size
   ·rw[hq];exact Nat.lt_of_lt_of_le R1.out.1.lt hs.size
   ·rw[hq];exact heb2.lt
  obtain⟨m3,hm3⟩:∃ x,x=m2:=⟨_,rfl⟩
  have hst3:∀ {v : Value},Stays (OwnC7 C kb m0) w v→Stays (OwnC7 (fun q=>C q∨q=rb∨q=eb) kb m2) w2 v:=fun hv=>hv.mono (by
   rw[hm2]
   rintro q (hq|hq)
   ·exact .inl (.inl hq)
   ·rcases hC1 q hq with h1|h1
    ·exact .inl (.inr h1)
    ·exact .inr h1) hsw2.size
  have hne:rb≠eb∧tb≠eb:=⟨fun e=>by have:=R1.out.1.lt;omega,heap_ne A2.out.box heb2 (by decide)⟩
  have hA2:TArg (fun q=>C q∨q=rb∨q=eb) kb tb ⟨kind,args,argsv,tl,tov,imm⟩ m2 w2:=⟨A2.out.box,A2.out.apart,⟨HTT.out.1.1.keep hsw2,hst3 HTT.out.1.2⟩,HTT.out.2.1.keep hsw2,hst3 HTT.out.2.2⟩
  have hv3s:Stays (OwnC7 (fun q=>C q∨q=rb∨q=eb) kb m2) w2 (.slice na tl.length nc):=fun q hq=>by
   have hlt:=World.ownsRow.lt hv3 q hq
   refine⟨?_,hlt.2⟩
   rintro (h1|h1|h1|h1)
   ·have:=H1.out.ltOwn (by rw[hm2]at h1;exact h1);omega
   ·have:=(HH.out.aside q h1).1;have:=HW1.out;omega
   ·have:=R1.out.1.lt;omega
   ·exact own_not hv3 heb2 (by decide) (h1 ▸ hq)
  have H3:=Lib.hid (show K7Ok (fun q=>C q∨q=rb∨q=eb) kb sv l m3 w3 from by rw[hm3];exact hH2.swapC t3 (fun q _ e=>.inr (.inr e)) fun q hq=>⟨.inl hq,Nat.lt_of_lt_of_le (hH2.aside q hq).1 t3.size⟩)
  have HLO:=Lib.hid (show w.heap.size≤eb from by have:=HW1.out;omega)
  have MV3:=mv7_eq hm3 (Lib.hid (MV2.out.beside t3 fun q hq=>by rw[hq];exact HLO.out))
  have SM3:Hid (Sm7 40 m3):=by rw[hm3];exact SM2
  have A3:=Lib.hid (show TArg (fun q=>C q∨q=rb∨q=eb) kb tb ⟨kind,args,argsv,tl,tov,imm⟩ m3 w3 from by rw[hm3];exact hA2.swap t3 (fun q _ e=>.inr (.inr e)) (fun q hq=>.inl hq) hne.2)
  have EB3:=Lib.hid (show EBox (fun q=>C q∨q=rb∨q=eb) kb eb rb ⟨0,0,0,tl,.slice na tl.length nc,imm⟩ m3 w3 from by
   rw[hm3]
   refine⟨hbox,(R1.out.1.keep hs).turn t3 hne.1,⟨fun h1=>(hH2.aside eb (.inr (.inr rfl))).2 h1,fun h1=>(hH2.aside rb (.inr (.inl rfl))).2 h1⟩,⟨(nums_of_own hv3).turn t3 (fun q hq e=>(hv3s q hq).1 (.inr (.inr (.inr e)))),hv3s.mono (fun _ hq=>.inl hq) t3.size⟩,fun q hq=>by rw[hm2];exact Nat.le_trans H1.out.low (World.ownsRow.lt hv3 q hq).1⟩)
  have HNE:=Lib.hid hne
  obtain⟨tn,htn⟩:∃ z,z=tl.length:=⟨_,rfl⟩
  rw[←htn]at EB3
  clear htn hm2 hm3 hw3 t3 hbox hsw2 hC1 hH2 hst3 hne hA2 hv3s heb heb2 hv3 h6 h7 hef hel2 he0 he1 he2 he3 he4 hs H2 MV2 SM2 A2 H1 MV1 SM1 A1 hel
  have hk:=HKK.out
  rcases hk with ⟨o,ha0,hl⟩|⟨o,ha1,hl⟩|⟨o,ha1,hl⟩|⟨o,ha1,hl⟩|⟨o,ha0,hl⟩
  ·skip
   subst o
   have hbx:HeapIs w3 tb #[_,_,_,_] 176:=A3.out.box
   dsimp only at hbx
   have hc0:=hbx.cell 0
   have hbl:=hbx.lt
   clear hbx
   have hbe:HeapIs w3 eb #[_,_,_,_,_] 53:=EB3.out.box
   dsimp only at hbe
   have hel:=hbe.lt
   have hef:=hbe.frozen
   have he0:=hbe.cell 0
   have he1:=hbe.cell 1
   have he2:=hbe.cell 2
   have he3:=hbe.cell 3
   have he4:=hbe.cell 4
   clear hbe
   go_upto_region 28 with fail
   clear hel hef he0 he1 he2 he3 he4
   obtain⟨w4,hw4⟩:∃ z,z=w3.setCell ⟨eb,0,none⟩ (.int .i64 1):=⟨_,rfl⟩
   have t4:Turn (fun q=>q=eb) w3 w4:=by rw[hw4];exact (Turn.refl (fun q=>q=eb) w3).setCell (p:=⟨eb,0,none⟩) rfl _
   obtain⟨m4,hm4⟩:∃ x,x=m3:=⟨_,rfl⟩
   have H4:=Lib.hid (H3.out.swapC (C':=(fun q=>C q∨q=rb∨q=eb)) t4 (fun q _ e=>.inr (.inr e)) fun q hq=>⟨.inl hq,Nat.lt_of_lt_of_le (H3.out.aside q hq).1 t4.size⟩)
   have MV4:=Lib.hid (MV3.out.beside t4 fun q hq=>by rw[hq];exact HLO.out)
   have SM4:=SM3
   have A4:=Lib.hid (A3.out.swap (C':=(fun q=>C q∨q=rb∨q=eb)) t4 (fun q _ e=>.inr (.inr e)) (fun q hq=>.inl hq) (fun e=>HNE.out.2 e))
   have EB4:=Lib.hid (show EBox (fun q=>C q∨q=rb∨q=eb) kb eb rb ⟨1,0,0,tl,.slice na tn nc,imm⟩ m3 w4 from by rw[hw4];exact EB3.out.set (.inr (.inr rfl)) HNE.out.1 0 _ rfl EB3.out.goals EB3.out.newer)
   rw[←hw4]
   rw[←hm4]at H4 MV4 SM4 A4 EB4
   clear hw4 t4 hm4
   clear hc0 hbl
   have hbe:HeapIs w4 eb #[_,_,_,_,_] 53:=EB4.out.box
   dsimp only at hbe
   have hrr:HeapIs w4 rb #[.int .i64 0,.int .i64 0,.int .i64 0,.slice none 0 0,.int .i32 0] 53:=EB4.out.res
   have hrl:=hrr.lt
   have hrf:=hrr.frozen
   have hr0:=hrr.cell 0
   have hr1:=hrr.cell 1
   have hr2:=hrr.cell 2
   have hr3:=hrr.cell 3
   have hr4:=hrr.cell 4
   have HRR:=Lib.hid hrr
   clear hrr
   go_wp2_with (refine wpList_load_row rfl _ _ rfl eb rfl 53 _ (0,0) _ hbe Try.underlying53 rfl (by kernel_rfl) ?_)
   have hres:=((((HRR.out.set 0 (.int .i64 (1))).set 1 (.int .i64 (0))).set 2 (.int .i64 (0))).set 3 (.slice na tn nc)).set 4 (.int .i32 imm)
   try simp only[Exit.inBlock,Exit.then]
   refine bodyPost_ret (results_cell_row rfl _ _ rb 53 #[.int .i64 (1),.int .i64 (0),.int .i64 (0),.slice na tn nc,.int .i32 imm] (0,0) _ rfl hres Try.underlying53 rfl (by kernel_rfl)) rfl ?_
   exact end7_fin R1.out.2.2 H4.out MV4.out EB4.out ⟨HGT.out.1,HGT.out.2,by dsimp only;omega,by dsimp only;omega,by dsimp only;omega⟩ (by decide) (by decide) (by decide)
  ·skip
   subst o
   obtain⟨a,hab⟩:∃ a,args=[a]:=by
    match args,ha1 with
    | [a],_=>exact⟨a,rfl⟩
   subst hab
   have ha:=hargs a (by simp)
   obtain⟨B,off,ac,hav⟩:=args_at A3.out.args.1 (Nat.succ_pos _)
   dsimp only[List.length_cons,List.length_nil,Nat.reduceAdd]at hav
   subst hav
   have hbx:HeapIs w3 tb #[_,_,_,_] 176:=A3.out.box
   dsimp only at hbx
   have hc0:=hbx.cell 0
   have hbl:=hbx.lt
   clear hbx
   have hbe:HeapIs w3 eb #[_,_,_,_,_] 53:=EB3.out.box
   dsimp only at hbe
   have hel:=hbe.lt
   have hef:=hbe.frozen
   have he0:=hbe.cell 0
   have he1:=hbe.cell 1
   have he2:=hbe.cell 2
   have he3:=hbe.cell 3
   have he4:=hbe.cell 4
   clear hbe
   go_upto_region 8 with fail
   clear hel hef he0 he1 he2 he3 he4
   obtain⟨w4,hw4⟩:∃ z,z=w3.setCell ⟨eb,0,none⟩ (.int .i64 2):=⟨_,rfl⟩
   have t4:Turn (fun q=>q=eb) w3 w4:=by rw[hw4];exact (Turn.refl (fun q=>q=eb) w3).setCell (p:=⟨eb,0,none⟩) rfl _
   obtain⟨m4,hm4⟩:∃ x,x=m3:=⟨_,rfl⟩
   have H4:=Lib.hid (H3.out.swapC (C':=(fun q=>C q∨q=rb∨q=eb)) t4 (fun q _ e=>.inr (.inr e)) fun q hq=>⟨.inl hq,Nat.lt_of_lt_of_le (H3.out.aside q hq).1 t4.size⟩)
   have MV4:=Lib.hid (MV3.out.beside t4 fun q hq=>by rw[hq];exact HLO.out)
   have SM4:=SM3
   have A4:=Lib.hid (A3.out.swap (C':=(fun q=>C q∨q=rb∨q=eb)) t4 (fun q _ e=>.inr (.inr e)) (fun q hq=>.inl hq) (fun e=>HNE.out.2 e))
   have EB4:=Lib.hid (show EBox (fun q=>C q∨q=rb∨q=eb) kb eb rb ⟨2,0,0,tl,.slice na tn nc,imm⟩ m3 w4 from by rw[hw4];exact EB3.out.set (.inr (.inr rfl)) HNE.out.1 0 _ rfl EB3.out.goals EB3.out.newer)
   rw[←hw4]
   rw[←hm4]at H4 MV4 SM4 A4 EB4
   clear hw4 t4 hm4
   clear hc0 hbl
   have hbe:HeapIs w4 eb #[_,_,_,_,_] 53:=EB4.out.box
   dsimp only at hbe
   have hel:=hbe.lt
   have hef:=hbe.frozen
   have he0:=hbe.cell 0
   have he1:=hbe.cell 1
   have he2:=hbe.cell 2
   have he3:=hbe.cell 3
   have he4:=hbe.cell 4
   clear hbe
   have hbx:HeapIs w4 tb #[_,_,_,_] 176:=A4.out.box
   dsimp only at hbx
   have hc1:=hbx.cell 1
   have hbl:=hbx.lt
   clear hbx
   obtain⟨ho,hol⟩:=A4.out.arg (j:=0) rfl (show _=some a from rfl)
   rw[Nat.add_zero]at ho
   go_upto_region 9 with fail
   clear hel hef he0 he1 he2 he3 he4
   clear hc1 hbl ho hol
   obtain⟨w5,hw5⟩:∃ z,z=w4.setCell ⟨eb,1,none⟩ (.int .i64 a):=⟨_,rfl⟩
   have t5:Turn (fun q=>q=eb) w4 w5:=by rw[hw5];exact (Turn.refl (fun q=>q=eb) w4).setCell (p:=⟨eb,1,none⟩) rfl _
   obtain⟨m5,hm5⟩:∃ x,x=m4:=⟨_,rfl⟩
   have H5:=Lib.hid (H4.out.swapC (C':=(fun q=>C q∨q=rb∨q=eb)) t5 (fun q _ e=>.inr (.inr e)) fun q hq=>⟨.inl hq,Nat.lt_of_lt_of_le (H4.out.aside q hq).1 t5.size⟩)
   have MV5:=Lib.hid (MV4.out.beside t5 fun q hq=>by rw[hq];exact HLO.out)
   have SM5:=SM4
   have A5:=Lib.hid (A4.out.swap (C':=(fun q=>C q∨q=rb∨q=eb)) t5 (fun q _ e=>.inr (.inr e)) (fun q hq=>.inl hq) (fun e=>HNE.out.2 e))
   have EB5:=Lib.hid (show EBox (fun q=>C q∨q=rb∨q=eb) kb eb rb ⟨2,a,0,tl,.slice na tn nc,imm⟩ m4 w5 from by rw[hw5];exact EB4.out.set (.inr (.inr rfl)) HNE.out.1 1 _ rfl EB4.out.goals EB4.out.newer)
   rw[←hw5]
   rw[←hm5]at H5 MV5 SM5 A5 EB5
   clear hw5 t5 hm5
   go_wp2_with fail
   refine (k7_take H5.out 4 (by decide) (by have:=SM5.out.1;omega)).mono ?_
   rintro e w6 ⟨m6,⟨q,rfl,⟨hq0,hq1⟩,hm6⟩,h6,mv6⟩
   have H6:=Lib.hid h6
   have MV6:=Lib.hid (MV5.out.trans mv6)
   have SM6:=Lib.hid (SM5.out.mv mv6 (by decide) (by decide) (by decide))
   have A6:=Lib.hid (A5.out.mv mv6)
   have EB6:=Lib.hid (EB5.out.mv mv6)
   clear h6 mv6 hm6
   by_cases hq:1<q
   ·skip
    go_upto_region 11 with fail
    have hbe:HeapIs w6 eb #[_,_,_,_,_] 53:=EB6.out.box
    dsimp only at hbe
    have hrr:HeapIs w6 rb #[.int .i64 0,.int .i64 0,.int .i64 0,.slice none 0 0,.int .i32 0] 53:=EB6.out.res
    have hrl:=hrr.lt
    have hrf:=hrr.frozen
    have hr0:=hrr.cell 0
    have hr1:=hrr.cell 1
    have hr2:=hrr.cell 2
    have hr3:=hrr.cell 3
    have hr4:=hrr.cell 4
    have HRR:=Lib.hid hrr
    clear hrr
    go_wp2_with (refine wpList_load_row rfl _ _ rfl eb rfl 53 _ (0,0) _ hbe Try.underlying53 rfl (by kernel_rfl) ?_)
    have hres:=((((HRR.out.set 0 (.int .i64 (2))).set 1 (.int .i64 (a))).set 2 (.int .i64 (0))).set 3 (.slice na tn nc)).set 4 (.int .i32 imm)
    try simp only[Exit.inBlock,Exit.then]
    refine bodyPost_ret (results_cell_row rfl _ _ rb 53 #[.int .i64 (2),.int .i64 (a),.int .i64 (0),.slice na tn nc,.int .i32 imm] (0,0) _ rfl hres Try.underlying53 rfl (by kernel_rfl)) rfl ?_
    exact end7_fin R1.out.2.2 H6.out MV6.out EB6.out ⟨HGT.out.1,HGT.out.2,by dsimp only;omega,by dsimp only;omega,by dsimp only;omega⟩ (by decide) (by decide) (by decide)
   ·skip
    have hq0:¬ 1<q:=hq
    go_wp2_with fail
    have hz6:0≤m6.next∧m6.next<9000:=by have:=SM6.out.2.1;omega
    refine (k7_temp H6.out ⟨hz6.1,by omega⟩).mono ?_
    rintro e w7 ⟨m7,⟨rfl,hm7⟩,h7,mv7⟩
    have H7:=Lib.hid h7
    have MV7:=Lib.hid (MV6.out.trans mv7)
    have SM7:=Lib.hid (SM6.out.mv mv7 (by decide) (by decide) (by decide))
    have A7:=Lib.hid (A6.out.mv mv7)
    have EB7:=Lib.hid (EB6.out.mv mv7)
    clear h7 mv7 hm7
    go_wp2_with fail
    refine (k7_word H7.out (SM7.out.mono (by decide)) (m6.next) (by omega) (0) (by unfold In32;decide)).mono ?_
    rintro e w8 ⟨m8,rfl,h8,mv8⟩
    have H8:=Lib.hid h8
    have MV8:=Lib.hid (MV7.out.trans mv8)
    have SM8:=Lib.hid (SM7.out.mv mv8 (by decide) (by decide) (by decide))
    have A8:=Lib.hid (A7.out.mv mv8)
    have EB8:=Lib.hid (EB7.out.mv mv8)
    clear h8 mv8
    have hbe:HeapIs w8 eb #[_,_,_,_,_] 53:=EB8.out.box
    dsimp only at hbe
    have hel:=hbe.lt
    have hef:=hbe.frozen
    have he0:=hbe.cell 0
    have he1:=hbe.cell 1
    have he2:=hbe.cell 2
    have he3:=hbe.cell 3
    have he4:=hbe.cell 4
    clear hbe
    go_upto_region 15 with fail
    clear hel hef he0 he1 he2 he3 he4
    obtain⟨w9,hw9⟩:∃ z,z=w8.setCell ⟨eb,0,none⟩ (.int .i64 5):=⟨_,rfl⟩
    have t9:Turn (fun q=>q=eb) w8 w9:=by rw[hw9];exact (Turn.refl (fun q=>q=eb) w8).setCell (p:=⟨eb,0,none⟩) rfl _
    obtain⟨m9,hm9⟩:∃ x,x=m8:=⟨_,rfl⟩
    have H9:=Lib.hid (H8.out.swapC (C':=(fun q=>C q∨q=rb∨q=eb)) t9 (fun q _ e=>.inr (.inr e)) fun q hq=>⟨.inl hq,Nat.lt_of_lt_of_le (H8.out.aside q hq).1 t9.size⟩)
    have MV9:=Lib.hid (MV8.out.beside t9 fun q hq=>by rw[hq];exact HLO.out)
    have SM9:=SM8
    have A9:=Lib.hid (A8.out.swap (C':=(fun q=>C q∨q=rb∨q=eb)) t9 (fun q _ e=>.inr (.inr e)) (fun q hq=>.inl hq) (fun e=>HNE.out.2 e))
    have EB9:=Lib.hid (show EBox (fun q=>C q∨q=rb∨q=eb) kb eb rb ⟨5,a,0,tl,.slice na tn nc,imm⟩ m8 w9 from by rw[hw9];exact EB8.out.set (.inr (.inr rfl)) HNE.out.1 0 _ rfl EB8.out.goals EB8.out.newer)
    rw[←hw9]
    rw[←hm9]at H9 MV9 SM9 A9 EB9
    clear hw9 t9 hm9
    have hbe:HeapIs w9 eb #[_,_,_,_,_] 53:=EB9.out.box
    dsimp only at hbe
    have hel:=hbe.lt
    have hef:=hbe.frozen
    have he0:=hbe.cell 0
    have he1:=hbe.cell 1
    have he2:=hbe.cell 2
    have he3:=hbe.cell 3
    have he4:=hbe.cell 4
    clear hbe
    go_upto_region 16 with fail
    clear hel hef he0 he1 he2 he3 he4
    obtain⟨w10,hw10⟩:∃ z,z=w9.setCell ⟨eb,1,none⟩ (.int .i64 m6.next):=⟨_,rfl⟩
    have t10:Turn (fun q=>q=eb) w9 w10:=by rw[hw10];exact (Turn.refl (fun q=>q=eb) w9).setCell (p:=⟨eb,1,none⟩) rfl _
    obtain⟨m10,hm10⟩:∃ x,x=m9:=⟨_,rfl⟩
    have H10:=Lib.hid (H9.out.swapC (C':=(fun q=>C q∨q=rb∨q=eb)) t10 (fun q _ e=>.inr (.inr e)) fun q hq=>⟨.inl hq,Nat.lt_of_lt_of_le (H9.out.aside q hq).1 t10.size⟩)
    have MV10:=Lib.hid (MV9.out.beside t10 fun q hq=>by rw[hq];exact HLO.out)
    have SM10:=SM9
    have A10:=Lib.hid (A9.out.swap (C':=(fun q=>C q∨q=rb∨q=eb)) t10 (fun q _ e=>.inr (.inr e)) (fun q hq=>.inl hq) (fun e=>HNE.out.2 e))
    have EB10:=Lib.hid (show EBox (fun q=>C q∨q=rb∨q=eb) kb eb rb ⟨5,m6.next,0,tl,.slice na tn nc,imm⟩ m9 w10 from by rw[hw10];exact EB9.out.set (.inr (.inr rfl)) HNE.out.1 1 _ rfl EB9.out.goals EB9.out.newer)
    rw[←hw10]
    rw[←hm10]at H10 MV10 SM10 A10 EB10
    clear hw10 t10 hm10
    have hbe:HeapIs w10 eb #[_,_,_,_,_] 53:=EB10.out.box
    dsimp only at hbe
    have hel:=hbe.lt
    have hef:=hbe.frozen
    have he0:=hbe.cell 0
    have he1:=hbe.cell 1
    have he2:=hbe.cell 2
    have he3:=hbe.cell 3
    have he4:=hbe.cell 4
    clear hbe
    have hbx:HeapIs w10 tb #[_,_,_,_] 176:=A10.out.box
    dsimp only at hbx
    have hc1:=hbx.cell 1
    have hbl:=hbx.lt
    clear hbx
    obtain⟨ho,hol⟩:=A10.out.arg (j:=0) rfl (show _=some a from rfl)
    rw[Nat.add_zero]at ho
    go_upto_region 17 with fail
    clear hel hef he0 he1 he2 he3 he4
    clear hc1 hbl ho hol
    obtain⟨w11,hw11⟩:∃ z,z=w10.setCell ⟨eb,2,none⟩ (.int .i64 a):=⟨_,rfl⟩
    have t11:Turn (fun q=>q=eb) w10 w11:=by rw[hw11];exact (Turn.refl (fun q=>q=eb) w10).setCell (p:=⟨eb,2,none⟩) rfl _
    obtain⟨m11,hm11⟩:∃ x,x=m10:=⟨_,rfl⟩
    have H11:=Lib.hid (H10.out.swapC (C':=(fun q=>C q∨q=rb∨q=eb)) t11 (fun q _ e=>.inr (.inr e)) fun q hq=>⟨.inl hq,Nat.lt_of_lt_of_le (H10.out.aside q hq).1 t11.size⟩)
    have MV11:=Lib.hid (MV10.out.beside t11 fun q hq=>by rw[hq];exact HLO.out)
    have SM11:=SM10
    have A11:=Lib.hid (A10.out.swap (C':=(fun q=>C q∨q=rb∨q=eb)) t11 (fun q _ e=>.inr (.inr e)) (fun q hq=>.inl hq) (fun e=>HNE.out.2 e))
    have EB11:=Lib.hid (show EBox (fun q=>C q∨q=rb∨q=eb) kb eb rb ⟨5,m6.next,a,tl,.slice na tn nc,imm⟩ m10 w11 from by rw[hw11];exact EB10.out.set (.inr (.inr rfl)) HNE.out.1 2 _ rfl EB10.out.goals EB10.out.newer)
    rw[←hw11]
    rw[←hm11]at H11 MV11 SM11 A11 EB11
    clear hw11 t11 hm11
    by_cases hq1:q=1
    ·skip
     subst hq1
     have hbe:HeapIs w11 eb #[_,_,_,_,_] 53:=EB11.out.box
     dsimp only at hbe
     have hel:=hbe.lt
     have hef:=hbe.frozen
     have he0:=hbe.cell 0
     have he1:=hbe.cell 1
     have he2:=hbe.cell 2
     have he3:=hbe.cell 3
     have he4:=hbe.cell 4
     clear hbe
     go_upto_region 19 with fail
     clear hel hef he0 he1 he2 he3 he4
     obtain⟨w12,hw12⟩:∃ z,z=w11.setCell ⟨eb,0,none⟩ (.int .i64 3):=⟨_,rfl⟩
     have t12:Turn (fun q=>q=eb) w11 w12:=by rw[hw12];exact (Turn.refl (fun q=>q=eb) w11).setCell (p:=⟨eb,0,none⟩) rfl _
     obtain⟨m12,hm12⟩:∃ x,x=m11:=⟨_,rfl⟩
     have H12:=Lib.hid (H11.out.swapC (C':=(fun q=>C q∨q=rb∨q=eb)) t12 (fun q _ e=>.inr (.inr e)) fun q hq=>⟨.inl hq,Nat.lt_of_lt_of_le (H11.out.aside q hq).1 t12.size⟩)
     have MV12:=Lib.hid (MV11.out.beside t12 fun q hq=>by rw[hq];exact HLO.out)
     have SM12:=SM11
     have A12:=Lib.hid (A11.out.swap (C':=(fun q=>C q∨q=rb∨q=eb)) t12 (fun q _ e=>.inr (.inr e)) (fun q hq=>.inl hq) (fun e=>HNE.out.2 e))
     have EB12:=Lib.hid (show EBox (fun q=>C q∨q=rb∨q=eb) kb eb rb ⟨3,m6.next,a,tl,.slice na tn nc,imm⟩ m11 w12 from by rw[hw12];exact EB11.out.set (.inr (.inr rfl)) HNE.out.1 0 _ rfl EB11.out.goals EB11.out.newer)
     rw[←hw12]
     rw[←hm12]at H12 MV12 SM12 A12 EB12
     clear hw12 t12 hm12
     obtain⟨y0,y1,hyy⟩:∃ y0 y1,tl=[y0,y1]:=by
      match tl,hl with
      | [y0,y1],_=>exact⟨y0,y1,rfl⟩
     subst hyy
     obtain⟨B2,off2,ac2,hav2⟩:=args_at A12.out.goals.1 (Nat.succ_pos _)
     dsimp only[List.length_cons,List.length_nil,Nat.reduceAdd]at hav2
     subst hav2
     refine wp_region_since_tail 9 rfl (by decide +kernel) (by decide +kernel) (by decide +kernel) (by decide)
      [Is (.pointer (some ⟨tb,2,none⟩)),Is (.slice (some ⟨B2,off2,none⟩) 2 ac2),Is (.pointer (some ⟨B2,off2+1,none⟩)),Is (.int .i64 y1),Is (.pointer (some ⟨tb,2,none⟩)),Is (.slice (some ⟨B2,off2,none⟩) 2 ac2),Is (.pointer (some ⟨B2,off2,none⟩)),Is (.int .i64 y0),NewTwo w12 y1 y0]
      (by repeat (first | exact trivial | refine⟨Is.stable _,?_⟩ | refine⟨NewTwo.stable _ _ _,?_⟩)) ⟨?_,?_,?_,?_,?_,?_,?_,?_,?_,trivial⟩ ?_
     rotate_right
     ·intro vs w13 hs hk
      simp only[List.take,List.drop,putAll,Act.put,KnowsAll,nthF,Is,List.setIfInBounds_toArray,List.set_cons_zero,List.set_cons_succ,Nat.reduceAdd]at hk ⊢
      try simp only[hk]
      obtain⟨qn,h8,hqn,hqb⟩:NewTwo w12 y1 y0 (vs 8) w13:=by exact hk.2.2.2.2.2.2.2.2.1
      simp only[h8]
      have HTWO:=Lib.hid (show Ints w13 (.slice (some ⟨qn,0,none⟩) 2 2) [y1,y0]∧Stays (OwnC7 (fun q=>C q∨q=rb∨q=eb) kb m12) w13 (.slice (some ⟨qn,0,none⟩) 2 2) from⟨two_ints7 hqb,fun q hq=>by have e:qn=q:=Option.some.inj hq;rw[←e];exact⟨fun h1=>(by have:=H12.out.ltOwnC h1;omega),hqb.lt⟩⟩)
      obtain⟨m13,hm13⟩:∃ x,x=m12:=⟨_,rfl⟩
      have H13:=Lib.hid (H12.out.keep hs)
      have MV13:=Lib.hid (MV12.out.keep hs)
      have SM13:=SM12
      have A13:=Lib.hid (A12.out.keep hs)
      have EB13:=Lib.hid (EB12.out.keep hs)
      have MV13:=mv7_eq hm13 MV13
      rw[←hm13]at H13 SM13 A13 EB13
      have HTW:=Lib.hid (show Ints w13 (.slice (some ⟨qn,0,none⟩) 2 2) [y1,y0]∧Stays (OwnC7 (fun q=>C q∨q=rb∨q=eb) kb m13) w13 (.slice (some ⟨qn,0,none⟩) 2 2) from by rw[hm13];exact HTWO.out)
      have HNW:=Lib.hid (show ∀ q,(Value.slice (some ⟨qn,0,none⟩) 2 2).ownBlock=some q→m13.base≤q from fun q hq=>by have e:qn=q:=Option.some.inj hq;rw[←e,hm13];exact Nat.le_trans H12.out.low hqn)
      clear hk hm13
      have hbe:HeapIs w13 eb #[_,_,_,_,_] 53:=EB13.out.box
      dsimp only at hbe
      have hel:=hbe.lt
      have hef:=hbe.frozen
      have he0:=hbe.cell 0
      have he1:=hbe.cell 1
      have he2:=hbe.cell 2
      have he3:=hbe.cell 3
      have he4:=hbe.cell 4
      clear hbe
      go_upto_region 28 with fail
      clear hel hef he0 he1 he2 he3 he4
      clear hs
      obtain⟨w14,hw14⟩:∃ z,z=w13.setCell ⟨eb,3,none⟩ (.slice (some ⟨qn,0,none⟩) 2 2):=⟨_,rfl⟩
      have t14:Turn (fun q=>q=eb) w13 w14:=by rw[hw14];exact (Turn.refl (fun q=>q=eb) w13).setCell (p:=⟨eb,3,none⟩) rfl _
      obtain⟨m14,hm14⟩:∃ x,x=m13:=⟨_,rfl⟩
      have H14:=Lib.hid (H13.out.swapC (C':=(fun q=>C q∨q=rb∨q=eb)) t14 (fun q _ e=>.inr (.inr e)) fun q hq=>⟨.inl hq,Nat.lt_of_lt_of_le (H13.out.aside q hq).1 t14.size⟩)
      have MV14:=Lib.hid (MV13.out.beside t14 fun q hq=>by rw[hq];exact HLO.out)
      have SM14:=SM13
      have A14:=Lib.hid (A13.out.swap (C':=(fun q=>C q∨q=rb∨q=eb)) t14 (fun q _ e=>.inr (.inr e)) (fun q hq=>.inl hq) (fun e=>HNE.out.2 e))
      have EB14:=Lib.hid (show EBox (fun q=>C q∨q=rb∨q=eb) kb eb rb ⟨3,m6.next,a,[y1,y0],.slice (some ⟨qn,0,none⟩) 2 2,imm⟩ m13 w14 from by rw[hw14];exact EB13.out.set (.inr (.inr rfl)) HNE.out.1 3 _ rfl ⟨HTW.out.1,HTW.out.2⟩ HNW.out)
      rw[←hw14]
      rw[←hm14]at H14 MV14 SM14 A14 EB14
      clear hw14 t14 hm14
      have hbe:HeapIs w14 eb #[_,_,_,_,_] 53:=EB14.out.box
      dsimp only at hbe
      have hrr:HeapIs w14 rb #[.int .i64 0,.int .i64 0,.int .i64 0,.slice none 0 0,.int .i32 0] 53:=EB14.out.res
      have hrl:=hrr.lt
      have hrf:=hrr.frozen
      have hr0:=hrr.cell 0
      have hr1:=hrr.cell 1
      have hr2:=hrr.cell 2
      have hr3:=hrr.cell 3
      have hr4:=hrr.cell 4
      have HRR:=Lib.hid hrr
      clear hrr
      go_wp2_with (refine wpList_load_row rfl _ _ rfl eb rfl 53 _ (0,0) _ hbe Try.underlying53 rfl (by kernel_rfl) ?_)
      have hres:=((((HRR.out.set 0 (.int .i64 (3))).set 1 (.int .i64 (m6.next))).set 2 (.int .i64 (a))).set 3 (.slice (some ⟨qn,0,none⟩) 2 2)).set 4 (.int .i32 imm)
      try simp only[Exit.inBlock,Exit.then]
      refine bodyPost_ret (results_cell_row rfl _ _ rb 53 #[.int .i64 (3),.int .i64 (m6.next),.int .i64 (a),.slice (some ⟨qn,0,none⟩) 2 2,.int .i32 imm] (0,0) _ rfl hres Try.underlying53 rfl (by kernel_rfl)) rfl ?_
      exact end7_fin R1.out.2.2 H14.out MV14.out EB14.out ⟨HGT.out.1,(fun x hx=>HGT.out.2 x (by simpa [or_comm]using hx)),by dsimp only;omega,by dsimp only;omega,.inr (.inl ⟨.inr (.inl rfl),rfl,by dsimp only;omega⟩)⟩ (by decide) (by decide) (by decide)
     all_goals
      intro vs w13 hs hk _
      simp only[List.take,putAll,Act.put,Knows,nthF,Is,List.setIfInBounds_toArray,List.set_cons_zero,List.set_cons_succ,Nat.reduceAdd]at hk ⊢
      try simp only[hk]
     ·go_wp2
      exact⟨_,rfl,rfl,Since.refl _⟩
     ·have hbx:HeapIs w13 tb #[_,_,_,_] 176:=(A12.out.keep hs).box
      dsimp only at hbx
      have hc:=hbx.cell 2
      have hl:=hbx.lt
      clear hbx
      go_wp2
      exact⟨_,rfl,rfl,Since.refl _⟩
     ·go_wp2
      exact⟨_,rfl,rfl,Since.refl _⟩
     ·obtain⟨hc,hl⟩:=(A12.out.keep hs).goal (j:=1) rfl (show _=some y1 from rfl)
      go_wp2
      exact⟨_,rfl,rfl,Since.refl _⟩
     ·go_wp2
      exact⟨_,rfl,rfl,Since.refl _⟩
     ·have hbx:HeapIs w13 tb #[_,_,_,_] 176:=(A12.out.keep hs).box
      dsimp only at hbx
      have hc:=hbx.cell 2
      have hl:=hbx.lt
      clear hbx
      go_wp2
      exact⟨_,rfl,rfl,Since.refl _⟩
     ·go_wp2
      exact⟨_,rfl,rfl,Since.refl _⟩
     ·obtain⟨hc,hl⟩:=(A12.out.keep hs).goal (j:=0) rfl (show _=some y0 from rfl)
      rw[Nat.add_zero]at hc
      go_wp2
      exact⟨_,rfl,rfl,Since.refl _⟩
     ·have hz:=hs.size
      clear hk
      go_wp2
      exact⟨_,rfl,⟨_,rfl,hz,HeapIs.new _ _ _⟩,(Since.refl _).alloc _⟩
    ·skip
     have hr1:(q==1)=false:=by simpa using hq1
     go_upto_region 28 with fail
     have hbe:HeapIs w11 eb #[_,_,_,_,_] 53:=EB11.out.box
     dsimp only at hbe
     have hrr:HeapIs w11 rb #[.int .i64 0,.int .i64 0,.int .i64 0,.slice none 0 0,.int .i32 0] 53:=EB11.out.res
     have hrl:=hrr.lt
     have hrf:=hrr.frozen
     have hr0:=hrr.cell 0
     have hr1:=hrr.cell 1
     have hr2:=hrr.cell 2
     have hr3:=hrr.cell 3
     have hr4:=hrr.cell 4
     have HRR:=Lib.hid hrr
     clear hrr
     go_wp2_with (refine wpList_load_row rfl _ _ rfl eb rfl 53 _ (0,0) _ hbe Try.underlying53 rfl (by kernel_rfl) ?_)
     have hres:=((((HRR.out.set 0 (.int .i64 (5))).set 1 (.int .i64 (m6.next))).set 2 (.int .i64 (a))).set 3 (.slice na tn nc)).set 4 (.int .i32 imm)
     try simp only[Exit.inBlock,Exit.then]
     refine bodyPost_ret (results_cell_row rfl _ _ rb 53 #[.int .i64 (5),.int .i64 (m6.next),.int .i64 (a),.slice na tn nc,.int .i32 imm] (0,0) _ rfl hres Try.underlying53 rfl (by kernel_rfl)) rfl ?_
     exact end7_fin R1.out.2.2 H11.out MV11.out EB11.out ⟨HGT.out.1,HGT.out.2,by dsimp only;omega,by dsimp only;omega,by dsimp only;omega⟩ (by decide) (by decide) (by decide)
  ·skip
   subst o
   obtain⟨a,hab⟩:∃ a,args=[a]:=by
    match args,ha1 with
    | [a],_=>exact⟨a,rfl⟩
   subst hab
   have ha:=hargs a (by simp)
   obtain⟨B,off,ac,hav⟩:=args_at A3.out.args.1 (Nat.succ_pos _)
   dsimp only[List.length_cons,List.length_nil,Nat.reduceAdd]at hav
   subst hav
   have hbx:HeapIs w3 tb #[_,_,_,_] 176:=A3.out.box
   dsimp only at hbx
   have hc0:=hbx.cell 0
   have hbl:=hbx.lt
   clear hbx
   have hbe:HeapIs w3 eb #[_,_,_,_,_] 53:=EB3.out.box
   dsimp only at hbe
   have hel:=hbe.lt
   have hef:=hbe.frozen
   have he0:=hbe.cell 0
   have he1:=hbe.cell 1
   have he2:=hbe.cell 2
   have he3:=hbe.cell 3
   have he4:=hbe.cell 4
   clear hbe
   go_upto_region 22 with fail
   clear hel hef he0 he1 he2 he3 he4
   obtain⟨w4,hw4⟩:∃ z,z=w3.setCell ⟨eb,0,none⟩ (.int .i64 6):=⟨_,rfl⟩
   have t4:Turn (fun q=>q=eb) w3 w4:=by rw[hw4];exact (Turn.refl (fun q=>q=eb) w3).setCell (p:=⟨eb,0,none⟩) rfl _
   obtain⟨m4,hm4⟩:∃ x,x=m3:=⟨_,rfl⟩
   have H4:=Lib.hid (H3.out.swapC (C':=(fun q=>C q∨q=rb∨q=eb)) t4 (fun q _ e=>.inr (.inr e)) fun q hq=>⟨.inl hq,Nat.lt_of_lt_of_le (H3.out.aside q hq).1 t4.size⟩)
   have MV4:=Lib.hid (MV3.out.beside t4 fun q hq=>by rw[hq];exact HLO.out)
   have SM4:=SM3
   have A4:=Lib.hid (A3.out.swap (C':=(fun q=>C q∨q=rb∨q=eb)) t4 (fun q _ e=>.inr (.inr e)) (fun q hq=>.inl hq) (fun e=>HNE.out.2 e))
   have EB4:=Lib.hid (show EBox (fun q=>C q∨q=rb∨q=eb) kb eb rb ⟨6,0,0,tl,.slice na tn nc,imm⟩ m3 w4 from by rw[hw4];exact EB3.out.set (.inr (.inr rfl)) HNE.out.1 0 _ rfl EB3.out.goals EB3.out.newer)
   rw[←hw4]
   rw[←hm4]at H4 MV4 SM4 A4 EB4
   clear hw4 t4 hm4
   clear hc0 hbl
   have hbe:HeapIs w4 eb #[_,_,_,_,_] 53:=EB4.out.box
   dsimp only at hbe
   have hel:=hbe.lt
   have hef:=hbe.frozen
   have he0:=hbe.cell 0
   have he1:=hbe.cell 1
   have he2:=hbe.cell 2
   have he3:=hbe.cell 3
   have he4:=hbe.cell 4
   clear hbe
   have hbx:HeapIs w4 tb #[_,_,_,_] 176:=A4.out.box
   dsimp only at hbx
   have hc1:=hbx.cell 1
   have hbl:=hbx.lt
   clear hbx
   obtain⟨ho,hol⟩:=A4.out.arg (j:=0) rfl (show _=some a from rfl)
   rw[Nat.add_zero]at ho
   go_upto_region 28 with fail
   clear hel hef he0 he1 he2 he3 he4
   clear hc1 hbl ho hol
   obtain⟨w5,hw5⟩:∃ z,z=w4.setCell ⟨eb,1,none⟩ (.int .i64 a):=⟨_,rfl⟩
   have t5:Turn (fun q=>q=eb) w4 w5:=by rw[hw5];exact (Turn.refl (fun q=>q=eb) w4).setCell (p:=⟨eb,1,none⟩) rfl _
   obtain⟨m5,hm5⟩:∃ x,x=m4:=⟨_,rfl⟩
   have H5:=Lib.hid (H4.out.swapC (C':=(fun q=>C q∨q=rb∨q=eb)) t5 (fun q _ e=>.inr (.inr e)) fun q hq=>⟨.inl hq,Nat.lt_of_lt_of_le (H4.out.aside q hq).1 t5.size⟩)
   have MV5:=Lib.hid (MV4.out.beside t5 fun q hq=>by rw[hq];exact HLO.out)
   have SM5:=SM4
   have A5:=Lib.hid (A4.out.swap (C':=(fun q=>C q∨q=rb∨q=eb)) t5 (fun q _ e=>.inr (.inr e)) (fun q hq=>.inl hq) (fun e=>HNE.out.2 e))
   have EB5:=Lib.hid (show EBox (fun q=>C q∨q=rb∨q=eb) kb eb rb ⟨6,a,0,tl,.slice na tn nc,imm⟩ m4 w5 from by rw[hw5];exact EB4.out.set (.inr (.inr rfl)) HNE.out.1 1 _ rfl EB4.out.goals EB4.out.newer)
   rw[←hw5]
   rw[←hm5]at H5 MV5 SM5 A5 EB5
   clear hw5 t5 hm5
   have hbe:HeapIs w5 eb #[_,_,_,_,_] 53:=EB5.out.box
   dsimp only at hbe
   have hrr:HeapIs w5 rb #[.int .i64 0,.int .i64 0,.int .i64 0,.slice none 0 0,.int .i32 0] 53:=EB5.out.res
   have hrl:=hrr.lt
   have hrf:=hrr.frozen
   have hr0:=hrr.cell 0
   have hr1:=hrr.cell 1
   have hr2:=hrr.cell 2
   have hr3:=hrr.cell 3
   have hr4:=hrr.cell 4
   have HRR:=Lib.hid hrr
   clear hrr
   go_wp2_with (refine wpList_load_row rfl _ _ rfl eb rfl 53 _ (0,0) _ hbe Try.underlying53 rfl (by kernel_rfl) ?_)
   have hres:=((((HRR.out.set 0 (.int .i64 (6))).set 1 (.int .i64 (a))).set 2 (.int .i64 (0))).set 3 (.slice na tn nc)).set 4 (.int .i32 imm)
   try simp only[Exit.inBlock,Exit.then]
   refine bodyPost_ret (results_cell_row rfl _ _ rb 53 #[.int .i64 (6),.int .i64 (a),.int .i64 (0),.slice na tn nc,.int .i32 imm] (0,0) _ rfl hres Try.underlying53 rfl (by kernel_rfl)) rfl ?_
   exact end7_fin R1.out.2.2 H5.out MV5.out EB5.out ⟨HGT.out.1,HGT.out.2,by dsimp only;omega,by dsimp only;omega,by dsimp only;omega⟩ (by decide) (by decide) (by decide)
  ·skip
   subst o
   have hbx:HeapIs w3 tb #[_,_,_,_] 176:=A3.out.box
   dsimp only at hbx
   have hc0:=hbx.cell 0
   have hbl:=hbx.lt
   clear hbx
   have hbe:HeapIs w3 eb #[_,_,_,_,_] 53:=EB3.out.box
   dsimp only at hbe
   have hel:=hbe.lt
   have hef:=hbe.frozen
   have he0:=hbe.cell 0
   have he1:=hbe.cell 1
   have he2:=hbe.cell 2
   have he3:=hbe.cell 3
   have he4:=hbe.cell 4
   clear hbe
   go_upto_region 25 with fail
   clear hel hef he0 he1 he2 he3 he4
   obtain⟨w4,hw4⟩:∃ z,z=w3.setCell ⟨eb,0,none⟩ (.int .i64 7):=⟨_,rfl⟩
   have t4:Turn (fun q=>q=eb) w3 w4:=by rw[hw4];exact (Turn.refl (fun q=>q=eb) w3).setCell (p:=⟨eb,0,none⟩) rfl _
   obtain⟨m4,hm4⟩:∃ x,x=m3:=⟨_,rfl⟩
   have H4:=Lib.hid (H3.out.swapC (C':=(fun q=>C q∨q=rb∨q=eb)) t4 (fun q _ e=>.inr (.inr e)) fun q hq=>⟨.inl hq,Nat.lt_of_lt_of_le (H3.out.aside q hq).1 t4.size⟩)
   have MV4:=Lib.hid (MV3.out.beside t4 fun q hq=>by rw[hq];exact HLO.out)
   have SM4:=SM3
   have A4:=Lib.hid (A3.out.swap (C':=(fun q=>C q∨q=rb∨q=eb)) t4 (fun q _ e=>.inr (.inr e)) (fun q hq=>.inl hq) (fun e=>HNE.out.2 e))
   have EB4:=Lib.hid (show EBox (fun q=>C q∨q=rb∨q=eb) kb eb rb ⟨7,0,0,tl,.slice na tn nc,imm⟩ m3 w4 from by rw[hw4];exact EB3.out.set (.inr (.inr rfl)) HNE.out.1 0 _ rfl EB3.out.goals EB3.out.newer)
   rw[←hw4]
   rw[←hm4]at H4 MV4 SM4 A4 EB4
   clear hw4 t4 hm4
   clear hc0 hbl
   have hbe:HeapIs w4 eb #[_,_,_,_,_] 53:=EB4.out.box
   dsimp only at hbe
   have hel:=hbe.lt
   have hef:=hbe.frozen
   have he0:=hbe.cell 0
   have he1:=hbe.cell 1
   have he2:=hbe.cell 2
   have he3:=hbe.cell 3
   have he4:=hbe.cell 4
   clear hbe
   go_upto_region 26 with fail
   clear hel hef he0 he1 he2 he3 he4
   obtain⟨w5,hw5⟩:∃ z,z=w4.setCell ⟨eb,1,none⟩ (.int .i64 (-1)):=⟨_,rfl⟩
   have t5:Turn (fun q=>q=eb) w4 w5:=by rw[hw5];exact (Turn.refl (fun q=>q=eb) w4).setCell (p:=⟨eb,1,none⟩) rfl _
   obtain⟨m5,hm5⟩:∃ x,x=m4:=⟨_,rfl⟩
   have H5:=Lib.hid (H4.out.swapC (C':=(fun q=>C q∨q=rb∨q=eb)) t5 (fun q _ e=>.inr (.inr e)) fun q hq=>⟨.inl hq,Nat.lt_of_lt_of_le (H4.out.aside q hq).1 t5.size⟩)
   have MV5:=Lib.hid (MV4.out.beside t5 fun q hq=>by rw[hq];exact HLO.out)
   have SM5:=SM4
   have A5:=Lib.hid (A4.out.swap (C':=(fun q=>C q∨q=rb∨q=eb)) t5 (fun q _ e=>.inr (.inr e)) (fun q hq=>.inl hq) (fun e=>HNE.out.2 e))
   have EB5:=Lib.hid (show EBox (fun q=>C q∨q=rb∨q=eb) kb eb rb ⟨7,-1,0,tl,.slice na tn nc,imm⟩ m4 w5 from by rw[hw5];exact EB4.out.set (.inr (.inr rfl)) HNE.out.1 1 _ rfl EB4.out.goals EB4.out.newer)
   rw[←hw5]
   rw[←hm5]at H5 MV5 SM5 A5 EB5
   clear hw5 t5 hm5
   obtain⟨aa,aac,hav⟩:=nums_lenI A5.out.args.1
   dsimp only at hav
   by_cases hl0:args.length=0
   ·skip
    rw[hl0]at hav
    subst hav
    have hbx:HeapIs w5 tb #[_,_,_,_] 176:=A5.out.box
    dsimp only at hbx
    have hc1:=hbx.cell 1
    have hbl:=hbx.lt
    clear hbx
    go_upto_region 28 with fail
    clear hc1 hbl
    have hbe:HeapIs w5 eb #[_,_,_,_,_] 53:=EB5.out.box
    dsimp only at hbe
    have hrr:HeapIs w5 rb #[.int .i64 0,.int .i64 0,.int .i64 0,.slice none 0 0,.int .i32 0] 53:=EB5.out.res
    have hrl:=hrr.lt
    have hrf:=hrr.frozen
    have hr0:=hrr.cell 0
    have hr1:=hrr.cell 1
    have hr2:=hrr.cell 2
    have hr3:=hrr.cell 3
    have hr4:=hrr.cell 4
    have HRR:=Lib.hid hrr
    clear hrr
    go_wp2_with (refine wpList_load_row rfl _ _ rfl eb rfl 53 _ (0,0) _ hbe Try.underlying53 rfl (by kernel_rfl) ?_)
    have hres:=((((HRR.out.set 0 (.int .i64 (7))).set 1 (.int .i64 (-1))).set 2 (.int .i64 (0))).set 3 (.slice na tn nc)).set 4 (.int .i32 imm)
    try simp only[Exit.inBlock,Exit.then]
    refine bodyPost_ret (results_cell_row rfl _ _ rb 53 #[.int .i64 (7),.int .i64 (-1),.int .i64 (0),.slice na tn nc,.int .i32 imm] (0,0) _ rfl hres Try.underlying53 rfl (by kernel_rfl)) rfl ?_
    exact end7_fin R1.out.2.2 H5.out MV5.out EB5.out ⟨HGT.out.1,HGT.out.2,by dsimp only;omega,by dsimp only;omega,by dsimp only;omega⟩ (by decide) (by decide) (by decide)
   ·skip
    obtain⟨a,hab⟩:∃ a,args=[a]:=by
     match args,ha1,hl0 with
     | [a],_,_=>exact⟨a,rfl⟩
     | [],_,h=>exact absurd rfl h
    subst hab
    have ha:=hargs a (by simp)
    obtain⟨B,off,ac,hav2⟩:=args_at A5.out.args.1 (Nat.succ_pos _)
    dsimp only[List.length_cons,List.length_nil,Nat.reduceAdd]at hav2
    subst hav2
    clear hav
    have hbx:HeapIs w5 tb #[_,_,_,_] 176:=A5.out.box
    dsimp only at hbx
    have hc1:=hbx.cell 1
    have hbl:=hbx.lt
    clear hbx
    obtain⟨ho,hol⟩:=A5.out.arg (j:=0) rfl (show _=some a from rfl)
    rw[Nat.add_zero]at ho
    go_wp2_with fail
    clear hc1 hbl ho hol
    refine (k7_copied H5.out (SM5.out.mono (by decide)) (a) ⟨by omega,by omega⟩).mono ?_
    rintro e w6 ⟨m6,⟨x,rfl,hx0,hx1⟩,h6,mv6⟩
    have H6:=Lib.hid h6
    have MV6:=Lib.hid (MV5.out.trans mv6)
    have SM6:=Lib.hid (SM5.out.mv mv6 (by decide) (by decide) (by decide))
    have A6:=Lib.hid (A5.out.mv mv6)
    have EB6:=Lib.hid (EB5.out.mv mv6)
    clear h6 mv6
    have hbe:HeapIs w6 eb #[_,_,_,_,_] 53:=EB6.out.box
    dsimp only at hbe
    have hel:=hbe.lt
    have hef:=hbe.frozen
    have he0:=hbe.cell 0
    have he1:=hbe.cell 1
    have he2:=hbe.cell 2
    have he3:=hbe.cell 3
    have he4:=hbe.cell 4
    clear hbe
    go_upto_region 28 with fail
    clear hel hef he0 he1 he2 he3 he4
    obtain⟨w7,hw7⟩:∃ z,z=w6.setCell ⟨eb,1,none⟩ (.int .i64 x):=⟨_,rfl⟩
    have t7:Turn (fun q=>q=eb) w6 w7:=by rw[hw7];exact (Turn.refl (fun q=>q=eb) w6).setCell (p:=⟨eb,1,none⟩) rfl _
    obtain⟨m7,hm7⟩:∃ x,x=m6:=⟨_,rfl⟩
    have H7:=Lib.hid (H6.out.swapC (C':=(fun q=>C q∨q=rb∨q=eb)) t7 (fun q _ e=>.inr (.inr e)) fun q hq=>⟨.inl hq,Nat.lt_of_lt_of_le (H6.out.aside q hq).1 t7.size⟩)
    have MV7:=Lib.hid (MV6.out.beside t7 fun q hq=>by rw[hq];exact HLO.out)
    have SM7:=SM6
    have A7:=Lib.hid (A6.out.swap (C':=(fun q=>C q∨q=rb∨q=eb)) t7 (fun q _ e=>.inr (.inr e)) (fun q hq=>.inl hq) (fun e=>HNE.out.2 e))
    have EB7:=Lib.hid (show EBox (fun q=>C q∨q=rb∨q=eb) kb eb rb ⟨7,x,0,tl,.slice na tn nc,imm⟩ m6 w7 from by rw[hw7];exact EB6.out.set (.inr (.inr rfl)) HNE.out.1 1 _ rfl EB6.out.goals EB6.out.newer)
    rw[←hw7]
    rw[←hm7]at H7 MV7 SM7 A7 EB7
    clear hw7 t7 hm7
    have hbe:HeapIs w7 eb #[_,_,_,_,_] 53:=EB7.out.box
    dsimp only at hbe
    have hrr:HeapIs w7 rb #[.int .i64 0,.int .i64 0,.int .i64 0,.slice none 0 0,.int .i32 0] 53:=EB7.out.res
    have hrl:=hrr.lt
    have hrf:=hrr.frozen
    have hr0:=hrr.cell 0
    have hr1:=hrr.cell 1
    have hr2:=hrr.cell 2
    have hr3:=hrr.cell 3
    have hr4:=hrr.cell 4
    have HRR:=Lib.hid hrr
    clear hrr
    go_wp2_with (refine wpList_load_row rfl _ _ rfl eb rfl 53 _ (0,0) _ hbe Try.underlying53 rfl (by kernel_rfl) ?_)
    have hres:=((((HRR.out.set 0 (.int .i64 (7))).set 1 (.int .i64 (x))).set 2 (.int .i64 (0))).set 3 (.slice na tn nc)).set 4 (.int .i32 imm)
    try simp only[Exit.inBlock,Exit.then]
    refine bodyPost_ret (results_cell_row rfl _ _ rb 53 #[.int .i64 (7),.int .i64 (x),.int .i64 (0),.slice na tn nc,.int .i32 imm] (0,0) _ rfl hres Try.underlying53 rfl (by kernel_rfl)) rfl ?_
    exact end7_fin R1.out.2.2 H7.out MV7.out EB7.out ⟨HGT.out.1,HGT.out.2,by dsimp only;omega,by dsimp only;omega,by dsimp only;omega⟩ (by decide) (by decide) (by decide)
  ·skip
   subst o
   have hbx:HeapIs w3 tb #[_,_,_,_] 176:=A3.out.box
   dsimp only at hbx
   have hc0:=hbx.cell 0
   have hbl:=hbx.lt
   clear hbx
   have hbe:HeapIs w3 eb #[_,_,_,_,_] 53:=EB3.out.box
   dsimp only at hbe
   have hel:=hbe.lt
   have hef:=hbe.frozen
   have he0:=hbe.cell 0
   have he1:=hbe.cell 1
   have he2:=hbe.cell 2
   have he3:=hbe.cell 3
   have he4:=hbe.cell 4
   clear hbe
   go_upto_region 28 with fail
   clear hel hef he0 he1 he2 he3 he4
   obtain⟨w4,hw4⟩:∃ z,z=w3.setCell ⟨eb,0,none⟩ (.int .i64 8):=⟨_,rfl⟩
   have t4:Turn (fun q=>q=eb) w3 w4:=by rw[hw4];exact (Turn.refl (fun q=>q=eb) w3).setCell (p:=⟨eb,0,none⟩) rfl _
   obtain⟨m4,hm4⟩:∃ x,x=m3:=⟨_,rfl⟩
   have H4:=Lib.hid (H3.out.swapC (C':=(fun q=>C q∨q=rb∨q=eb)) t4 (fun q _ e=>.inr (.inr e)) fun q hq=>⟨.inl hq,Nat.lt_of_lt_of_le (H3.out.aside q hq).1 t4.size⟩)
   have MV4:=Lib.hid (MV3.out.beside t4 fun q hq=>by rw[hq];exact HLO.out)
   have SM4:=SM3
   have A4:=Lib.hid (A3.out.swap (C':=(fun q=>C q∨q=rb∨q=eb)) t4 (fun q _ e=>.inr (.inr e)) (fun q hq=>.inl hq) (fun e=>HNE.out.2 e))
   have EB4:=Lib.hid (show EBox (fun q=>C q∨q=rb∨q=eb) kb eb rb ⟨8,0,0,tl,.slice na tn nc,imm⟩ m3 w4 from by rw[hw4];exact EB3.out.set (.inr (.inr rfl)) HNE.out.1 0 _ rfl EB3.out.goals EB3.out.newer)
   rw[←hw4]
   rw[←hm4]at H4 MV4 SM4 A4 EB4
   clear hw4 t4 hm4
   clear hc0 hbl
   have hbe:HeapIs w4 eb #[_,_,_,_,_] 53:=EB4.out.box
   dsimp only at hbe
   have hrr:HeapIs w4 rb #[.int .i64 0,.int .i64 0,.int .i64 0,.slice none 0 0,.int .i32 0] 53:=EB4.out.res
   have hrl:=hrr.lt
   have hrf:=hrr.frozen
   have hr0:=hrr.cell 0
   have hr1:=hrr.cell 1
   have hr2:=hrr.cell 2
   have hr3:=hrr.cell 3
   have hr4:=hrr.cell 4
   have HRR:=Lib.hid hrr
   clear hrr
   go_wp2_with (refine wpList_load_row rfl _ _ rfl eb rfl 53 _ (0,0) _ hbe Try.underlying53 rfl (by kernel_rfl) ?_)
   have hres:=((((HRR.out.set 0 (.int .i64 (8))).set 1 (.int .i64 (0))).set 2 (.int .i64 (0))).set 3 (.slice na tn nc)).set 4 (.int .i32 imm)
   try simp only[Exit.inBlock,Exit.then]
   refine bodyPost_ret (results_cell_row rfl _ _ rb 53 #[.int .i64 (8),.int .i64 (0),.int .i64 (0),.slice na tn nc,.int .i32 imm] (0,0) _ rfl hres Try.underlying53 rfl (by kernel_rfl)) rfl ?_
   exact end7_fin R1.out.2.2 H4.out MV4.out EB4.out ⟨HGT.out.1,HGT.out.2,by dsimp only;omega,by dsimp only;omega,by dsimp only;omega⟩ (by decide) (by decide) (by decide)
 all_goals
  intro vs w2 hs hk _
  simp only[List.take,putAll,Act.put,Knows,nthF,Is,List.setIfInBounds_toArray,List.set_cons_zero,List.set_cons_succ,Nat.reduceAdd]at hk ⊢
  try simp only[hk]
 ·have hz:=hs.size
  clear hk
  go_wp2
  exact⟨_,rfl,IsNilOf.new hz,(Since.refl _).alloc _⟩
 ·go_wp2
  exact⟨_,rfl,rfl,Since.refl _⟩
 ·have hbx:HeapIs w2 tb #[_,_,_,_] 176:=(A1.out.keep hs).box
  dsimp only at hbx
  have hc:=hbx.cell 2
  have hl:=hbx.lt
  clear hbx
  go_wp2
  exact⟨_,rfl,rfl,Since.refl _⟩
 ·have hz:=hs.size
  have hnil:IsNilOf 3 w1 (vs 0) w2:=hk.1
  have hav:vs 2=tov:=hk.2.1
  have hsrc:=srcInts (A1.out.keep hs).goals.1
  generalize vs 0=v5 at *
  generalize vs 2=v7 at *
  subst hav
  clear hk
  refine wpList_append_clone (w0:=w1) rfl _ _ 25 rfl 3 (.int .i64 0) 1 8 Try.underlying25 Try.info3 rfl (by decide) (by decide) v5 v7 tl.length (tl.map (Value.int .i64)) rfl rfl hnil hsrc (by simp) HTL.out (fun u hu=>by obtain⟨z,_,rfl⟩:=List.mem_map.1 hu;rfl) hz ?_
  intro v' w3 hown hs3
  go_wp2
  exact⟨_,rfl,hown,hs3⟩
 ·go_wp2
  exact⟨_,rfl,rfl,Since.refl _⟩
 ·have hbx:HeapIs w2 tb #[_,_,_,_] 176:=(A1.out.keep hs).box
  dsimp only at hbx
  have hc:=hbx.cell 3
  have hl:=hbx.lt
  clear hbx
  go_wp2
  exact⟨_,rfl,rfl,Since.refl _⟩
 ·have h8:NewNums 3 w1 tl (vs 3) w2:=by exact hk.1
  have h4:vs 5=.int .i32 imm:=by exact hk.2.1
  generalize vs 3=v8 at *
  obtain⟨na,nc,hv8⟩:=own_shape (show w2.ownsRow _ _ _ _ _ _ from h8)
  subst hv8
  clear hk
  go_wp2
  exact⟨_,rfl,⟨_,rfl,h8⟩,Since.refl _⟩
 ·have hz:=hs.size
  clear hk
  go_wp2
  exact⟨_,rfl,⟨_,rfl,hz,HeapIs.new _ _ _⟩,(Since.refl _).alloc _⟩
end
end Go.Proofs.Ytkpbmbhejpmboaa
