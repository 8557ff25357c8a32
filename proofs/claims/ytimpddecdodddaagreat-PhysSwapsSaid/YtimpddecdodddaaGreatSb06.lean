import Derived.Test.YtimpddecdodddaaGreatSb05
namespace Go.Proofs.YtimpddecdodddaaGreat
open Go.RowKit Go.Lib
set_option linter.unusedVariables false
set_option maxHeartbeats 1000000
set_option maxRecDepth 100000
theorem zi {P:Prop} (h:P:=by
 have hc:=hV.out;clear ha hk;have ha:∀ i,w2.cell? ⟨w.heap.size,i,none⟩=_:=fun i=>(hc.cell (p:=⟨w.heap.size,i,none⟩) (Nat.lt_of_succ_lt hb.out)).trans (he.out i)
 have hg:∀ i,w2.cell? ⟨w.heap.size+1,i,none⟩=_:=fun i=>(hc.cell (p:=⟨w.heap.size+1,i,none⟩) hb.out).trans (hd.out i)
 have hN:=he;have hM:=hd;have hv:=hb;have hH:=HS;clear hj hi he hd;have he:=hid ha;have hd:=hid hg;have hb:=hid (Nat.lt_of_lt_of_le hv.out hc.size);have HS:=hid (hH.out.trans hc);have hj:=ha;have hi:=hg;clear ha hg hN hM hv hH hc;go_wp2_with fail
 refine (hI.out _ (H.out.keep HS.out)).mono ?_;rw[hy.out];rintro e5 w5 ⟨v5,rfl,ho,hr⟩;obtain⟨ka,kc,rfl⟩:=Zb ho;obtain⟨_,hG⟩:=Zx ho;obtain⟨kb,ko,rfl,_,hh⟩:=hG (by simp);have hP:w5.cell? ⟨kb,ko,none⟩=some (.int .i64 xd):=hh 0 _ rfl;have hn:=hid (HS.out.trans hr);have ht:w5.cell? ⟨w.heap.size+1,0,none⟩=_:=(hr.cell (p:=⟨w.heap.size+1,0,none⟩) hb.out).trans (hd.out 0);have hF:=hJ.out xd (V.getD 0) w5 (w.heap.size+1) (HW.out.keep hn.out) (ht.trans (ZW _ _ _ _));have hX:=hid hF;clear hG hh ho hr ht hj hi hF;go_wp2
 go_loopw [189] (fun i wr=>∃ t:Nat,i=.int .i64 t∧(t=0∧wr=w5∨t=1∧wr=Y9 w5 rb R xd (V.getD 0))) (fun i _=>1-(intOf i).toNat)
 case atStart=>exact⟨0,rfl,.inl ⟨rfl,rfl⟩⟩
 case round =>
  obtain⟨t,rfl,⟨rfl,rfl⟩|⟨rfl,hz⟩⟩:=hrel
  ·go_wp2_with fail
   refine hX.out.mono ?_;rintro e6 w6 ⟨rfl,hD⟩;have hU:=hid hD;clear hD;go_wp2
   go_roundw
   case rel=>exact⟨1,rfl,.inr ⟨rfl,hU.out⟩⟩
   case measure=>simp[intOf]
  ·have hu:=hid hz;clear hz hP;go_wp2
   go_ret2
   exact⟨rfl,by rw[hu.out];exact YO (HW.out.keep hn.out) _ _,by rw[hu.out];exact (HM.out.keep hn.out).turn (ZJ (S:=fun k=>k=rb) rfl _ _ _) (fun q hq e=>hK.out.2 (by rw[hq,e])),by rw[hu.out];exact (Turn.since hn.out).trans (ZJ (S:=fun k=>k=rb∨_) (.inl rfl) _ _ _)⟩):P:=h
theorem qT {P:Prop} (h:P:=by
 go_wp2_with fail
 refine (hL.out _ w1 (HW.out.keep HS.out)).mono ?_;rintro e w2 ⟨rfl,rfl⟩;go_wp2
 exact⟨_,rfl,rfl,.refl _⟩):P:=h
theorem yA {P:Prop} (h:P:=by
 go_wp2_with fail
 refine (hW.out w2).mono ?_;rintro e3 w3 ⟨rfl,hO⟩;go_wp2
 exact⟨_,rfl,rfl,hO⟩):P:=h
theorem jb {P:Prop} (h:P:=by obtain⟨op,xd,xe,xa,xb,xc,ximm,xargs⟩:=m;dsimp only at ho;subst ho;rfl):P:=h
theorem j4 {P:Prop} (h:P:=by first | exact HL.out | (rw[ZR];exact HL.out) | (rw[ZR,ZR];exact HL.out)):P:=h
theorem j8 {P:Prop} (h:P:=by first | exact ZW _ _ _ _ | (rw[ZR];exact ZW _ _ _ _)):P:=h
theorem ZR (R:List Int) (i v:Int):(setR R i v).length=R.length:=by unfold setR;split<;>simp
theorem Zff (m:Mach) (av mv0:Value) (R M:List Int) (rb rc:Nat) (rest:List Value) (T:TypeId) (w:World) (h:Zi w av m.args) (hf:Yw m) (hw:WAt w rb R rest T) (hR:∀ x∈R,In32 x) (hl:R.length≤1000) (hm:MemIs w mv0 M)
  (hj:(∀ q,av.ownBlock=some q→q≠rb∧mv0.ownBlock≠some q)∧mv0.ownBlock≠some rb) (ho:m.op=2) :
  Calls Tryz.prog 169 #[mv m av,.slice (some ⟨rb,0,none⟩) R.length rc,mv0] w (YN none (setR (setR R m.a (getR R m.b)) m.b (getR R m.a)) M rb rest T mv0 w):=by
 have hF:=hid (fun r w h=>Zv R rb rc rest T r w h kT)
 have hO:=hid (fun r v w bx h hx=>Z0 R rb rc bx rest T r v w h kT hx)
 have hM:=hid (fun w h=>ZK m av w h hf.2.2);have hA:=Zl hR m.a;have hB:=Zl hR m.b;have hC:=Zl hR m.c;obtain⟨ma,mc,rfl,hQ⟩:=hm.shape;obtain⟨aa,ac,hJ⟩:=Zb h;subst hJ;have H:=hid h;have HW:=hid hw;have HM:=hid hm;have hE:=hid hj;have HF:=hid hf;have hg:=hid hw.lt;clear h hw hm hj hf hR;unfold mv at hM;unfold mv;have HL:=zH (R.length≤1000000) kT;have n1:=zN m.op 1;have y2:(m.op==2)=true:=beq_iff_eq.2 kT;clear ho;obtain⟨hX,hW⟩:=hA;obtain⟨hV,hU⟩:=hB;obtain⟨hT,hS⟩:=hC;go_enter Tryz.func169,Tryz.ntmps169
 go_wp2
 refine Zd rfl kK kK
  [Is (.slice (some ⟨rb,0,none⟩) R.length rc),Is (.pointer (some ⟨w.heap.size,3,none⟩)),Is (.int .i64 m.a),Is (.int .i32 (getR R m.a)),Is (.slice (some ⟨rb,0,none⟩) R.length rc),Is (.pointer (some ⟨w.heap.size,4,none⟩)),Is (.int .i64 m.b),Is (.int .i32 (getR R m.b)),Is (.slice (some ⟨rb,0,none⟩) R.length rc),Is (.pointer (some ⟨w.heap.size,5,none⟩)),Is (.int .i64 m.c),Is (.int .i32 (getR R m.c)),Is (.int .i32 (getR R m.a)),Is (.int .i32 (getR R m.b)),Is (.int .i32 (getR R m.c))]
  jS ⟨?_,?_,?_,?_,?_,?_,?_,?_,?_,?_,?_,?_,?_,?_,?_,trivial⟩ ?_
 all_goals
  intro vs w1 hs hk;have hu:∀ i,w1.cell? ⟨w.heap.size,i,none⟩=_:=fun i=>hs.cell (p:=⟨w.heap.size,i,none⟩) kM
  have ht:∀ i,w1.cell? ⟨w.heap.size+1,i,none⟩=_:=fun i=>hs.cell (p:=⟨w.heap.size+1,i,none⟩) kU
  have he:=zH (w.heap.size+1<w1.heap.size) kh;have HS:=hid (Since.trans (((Since.refl w).alloc _).alloc _) hs);clear hs;simp only[putAll,Act.put,Zk,Zc,Ze,Is,List.setIfInBounds_toArray,List.set_cons_zero,List.set_cons_succ,Nat.reduceAdd,List.length_cons,List.length_nil]at hk ⊢;try simp only[hk]
 iterate 3
  iterate 3
   ·exact jK
  ·go_wp2_with fail
   refine (hF.out _ w1 (HW.out.keep HS.out)).mono ?_;exact jj
 iterate 3
  ·exact jK
 ·have hy:=hid hu;have hp:=hid ht;clear hk;generalize getR R m.a=A at *;generalize getR R m.b=B at *;generalize getR R m.c=C at *;have hL:=hid (Turn.refl (fun k=>k=rb) w1);have hH:=hp;go_wp2_with fail
  refine (Z0 R rb rc (w.heap.size+1) rest T m.a B _ (HW.out.keep HS.out) j4 ((hH.out 0).trans j8)).mono ?_
  rintro e2 w2 ⟨rfl,hi⟩;have hb:=YO (HW.out.keep HS.out) m.a B;rw[←hi]at hb;have hd:Turn (fun k=>k=rb) w1 w2:=hL.out.trans (by rw[hi];exact ZJ (S:=fun k=>k=rb) rfl _ _ _)
  have hD:∀ i,w2.cell? ⟨w.heap.size,i,none⟩=_:=fun i=>(hd.cell (p:=⟨w.heap.size,i,none⟩) (Nat.lt_of_succ_lt he.out) (fun e=>by have:=hg.out;have e':w.heap.size=rb:=e;omega)).trans (hy.out i)
  have hn:∀ i,w2.cell? ⟨w.heap.size+1,i,none⟩=_:=fun i=>(hd.cell (p:=⟨w.heap.size+1,i,none⟩) he.out (fun e=>by have:=hg.out;have e':w.heap.size+1=rb:=e;omega)).trans (hp.out i)
  have hK:=hid hd;have hG:=hid hn;have hr:=hid hb;clear hd hb hi hu ht;go_wp2_with fail
  refine (Z0 (setR R m.a B) rb rc (w.heap.size+1) rest T m.b A _ hr.out j4 ((hG.out 0).trans j8)).mono ?_
  rintro e3 w3 ⟨rfl,hh⟩;have ha:=YO hr.out m.b A;rw[←hh]at ha;have hc:Turn (fun k=>k=rb) w1 w3:=hK.out.trans (by rw[hh];exact ZJ (S:=fun k=>k=rb) rfl _ _ _)
  have hN:∀ i,w3.cell? ⟨w.heap.size,i,none⟩=_:=fun i=>(hc.cell (p:=⟨w.heap.size,i,none⟩) (Nat.lt_of_succ_lt he.out) (fun e=>by have:=hg.out;have e':w.heap.size=rb:=e;omega)).trans (hy.out i)
  have hz:∀ i,w3.cell? ⟨w.heap.size+1,i,none⟩=_:=fun i=>(hc.cell (p:=⟨w.heap.size+1,i,none⟩) he.out (fun e=>by have:=hg.out;have e':w.heap.size+1=rb:=e;omega)).trans (hp.out i)
  have hv:=hid hc;have hP:=hid hz;have hI:=hid ha;clear hc ha hh hD hn;go_wp2
  go_ret2
  exact⟨rfl,hI.out,(HM.out.keep HS.out).turn hv.out (fun q hq e=>hE.out.2 (by rw[hq,e])),(Turn.since HS.out).trans (hv.out.mono fun _ _ h=>.inl h)⟩
theorem ZeA (m:Mach) (av mv0:Value) (R M:List Int) (rb rc:Nat) (rest:List Value) (T:TypeId) (w:World) (h:Zi w av m.args) (hf:Yw m) (hw:WAt w rb R rest T) (hR:∀ x∈R,In32 x) (hl:R.length≤1000) (hm:MemIs w mv0 M)
  (hn:(∀ q,av.ownBlock=some q→q≠rb∧mv0.ownBlock≠some q)∧mv0.ownBlock≠some rb) (ho:m.op=29) :
  Calls Tryz.prog 169 #[mv m av,.slice (some ⟨rb,0,none⟩) R.length rc,mv0] w (YN none (setR (setR R m.d (lowI (getR R m.a) (getR R m.b))) m.e (highI (getR R m.a) (getR R m.b))) M rb rest T mv0 w):=by
 have hG:=hid (fun r w h=>Zv R rb rc rest T r w h kT)
 have hU:=hid (fun r v w bx h hx=>Z0 R rb rc bx rest T r v w h kT hx)
 have hS:=hid (fun w h=>ZK m av w h hf.2.2);have hA:=Zl hR m.a;have hB:=Zl hR m.b;have hC:=Zl hR m.c;obtain⟨ma,mc,rfl,hW⟩:=hm.shape;obtain⟨aa,ac,hK⟩:=Zb h;subst hK;have H:=hid h;have HW:=hid hw;have HM:=hid hm;have hF:=hid hn;have HF:=hid hf;have hg:=hid hw.lt;clear h hw hm hn hf hR;unfold mv at hS;unfold mv;have HL:=zH (R.length≤1000000) kT;have n1:=zN m.op 1;have n2:=zN m.op 2;have n3:=zN m.op 3;have n4:=zN m.op 4;have n23:=zN m.op 23;have n24:=zN m.op 24;have n25:=zN m.op 25;have n26:=zN m.op 26;have n27:=zN m.op 27;have y29:(m.op==29)=true:=beq_iff_eq.2 kT;have g1:¬ m.op≤17:=kT
 have g2:¬ m.op≤22:=kT
 have g3:18≤m.op:=kT
 have g4:5≤m.op:=kT
 clear ho;obtain⟨hO,hN⟩:=hA;obtain⟨hM,hL⟩:=hB;obtain⟨hY,hX⟩:=hC;go_enter Tryz.func169,Tryz.ntmps169
 go_wp2
 refine Zd rfl kK kK
  [Is (.slice (some ⟨rb,0,none⟩) R.length rc),Is (.pointer (some ⟨w.heap.size,3,none⟩)),Is (.int .i64 m.a),Is (.int .i32 (getR R m.a)),Is (.slice (some ⟨rb,0,none⟩) R.length rc),Is (.pointer (some ⟨w.heap.size,4,none⟩)),Is (.int .i64 m.b),Is (.int .i32 (getR R m.b)),Is (.slice (some ⟨rb,0,none⟩) R.length rc),Is (.pointer (some ⟨w.heap.size,5,none⟩)),Is (.int .i64 m.c),Is (.int .i32 (getR R m.c)),Is (.int .i32 (getR R m.a)),Is (.int .i32 (getR R m.b)),Is (.int .i32 (getR R m.c))]
  jS ⟨?_,?_,?_,?_,?_,?_,?_,?_,?_,?_,?_,?_,?_,?_,?_,trivial⟩ ?_
 all_goals
  intro vs w1 hs hk;have hv:∀ i,w1.cell? ⟨w.heap.size,i,none⟩=_:=fun i=>hs.cell (p:=⟨w.heap.size,i,none⟩) kM
  have hu:∀ i,w1.cell? ⟨w.heap.size+1,i,none⟩=_:=fun i=>hs.cell (p:=⟨w.heap.size+1,i,none⟩) kU
  have he:=zH (w.heap.size+1<w1.heap.size) kh;have HS:=hid (Since.trans (((Since.refl w).alloc _).alloc _) hs);clear hs;simp only[putAll,Act.put,Zk,Zc,Ze,Is,List.setIfInBounds_toArray,List.set_cons_zero,List.set_cons_succ,Nat.reduceAdd,List.length_cons,List.length_nil]at hk ⊢;try simp only[hk]
 iterate 3
  iterate 3
   ·exact jK
  ·go_wp2_with fail
   refine (hG.out _ w1 (HW.out.keep HS.out)).mono ?_;exact jj
 iterate 3
  ·exact jK
 ·have hz:=hid hv;have hr:=hid hu;clear hk;generalize getR R m.a=A at *;generalize getR R m.b=B at *;generalize getR R m.c=C at *;have hQ:=hid (Turn.refl (fun k=>k=rb) w1);have hI:=hr;go_wp2_with fail
  refine (Zcp A B _ hO hN hM hL).mono ?_;rintro e9 w9 ⟨rfl,rfl⟩;generalize lowI A B=lo at *;generalize highI A B=hi at *;go_wp2_with fail
  refine (Z0 R rb rc (w.heap.size+1) rest T m.d lo _ (HW.out.keep HS.out) j4 ((hI.out 0).trans j8)).mono ?_
  rintro e2 w2 ⟨rfl,hj⟩;have hb:=YO (HW.out.keep HS.out) m.d lo;rw[←hj]at hb;have hd:Turn (fun k=>k=rb) w1 w2:=hQ.out.trans (by rw[hj];exact ZJ (S:=fun k=>k=rb) rfl _ _ _)
  have hE:∀ i,w2.cell? ⟨w.heap.size,i,none⟩=_:=fun i=>(hd.cell (p:=⟨w.heap.size,i,none⟩) (Nat.lt_of_succ_lt he.out) (fun e=>by have:=hg.out;have e':w.heap.size=rb:=e;omega)).trans (hz.out i)
  have hp:∀ i,w2.cell? ⟨w.heap.size+1,i,none⟩=_:=fun i=>(hd.cell (p:=⟨w.heap.size+1,i,none⟩) he.out (fun e=>by have:=hg.out;have e':w.heap.size+1=rb:=e;omega)).trans (hr.out i)
  have hP:=hid hd;have hH:=hid hp;have ht:=hid hb;clear hd hb hj hv hu;go_wp2_with fail
  refine (Z0 (setR R m.d lo) rb rc (w.heap.size+1) rest T m.e hi _ ht.out j4 ((hH.out 0).trans j8)).mono ?_
  rintro e3 w3 ⟨rfl,hh⟩;have ha:=YO ht.out m.e hi;rw[←hh]at ha;have hc:Turn (fun k=>k=rb) w1 w3:=hP.out.trans (by rw[hh];exact ZJ (S:=fun k=>k=rb) rfl _ _ _)
  have hT:∀ i,w3.cell? ⟨w.heap.size,i,none⟩=_:=fun i=>(hc.cell (p:=⟨w.heap.size,i,none⟩) (Nat.lt_of_succ_lt he.out) (fun e=>by have:=hg.out;have e':w.heap.size=rb:=e;omega)).trans (hz.out i)
  have hD:∀ i,w3.cell? ⟨w.heap.size+1,i,none⟩=_:=fun i=>(hc.cell (p:=⟨w.heap.size+1,i,none⟩) he.out (fun e=>by have:=hg.out;have e':w.heap.size+1=rb:=e;omega)).trans (hr.out i)
  have hy:=hid hc;have hV:=hid hD;have hJ:=hid ha;clear hc ha hh hE hp;go_wp2
  go_ret2
  exact⟨rfl,hJ.out,(HM.out.keep HS.out).turn hy.out (fun q hq e=>hF.out.2 (by rw[hq,e])),(Turn.since HS.out).trans (hy.out.mono fun _ _ h=>.inl h)⟩
theorem ZeG (xd xe xa xb xc ximm:Int) (xargs:List Int) (av mv0:Value) (R M:List Int) (rb rc:Nat) (rest:List Value) (T:TypeId) (w:World) (h:Zi w av xargs) (hf:Yw ⟨18,xd,xe,xa,xb,xc,ximm,xargs⟩) (hw:WAt w rb R rest T) (hR:∀ x∈R,In32 x) (hl:R.length≤1000) (hm:MemIs w mv0 M)
  (hp:(∀ q,av.ownBlock=some q→q≠rb∧mv0.ownBlock≠some q)∧mv0.ownBlock≠some rb)  :
  Calls Tryz.prog 169 #[mv ⟨18,xd,xe,xa,xb,xc,ximm,xargs⟩ av,.slice (some ⟨rb,0,none⟩) R.length rc,mv0] w (YN none (setR R xd ((doI 2 (getR R xa) ximm).getD 0)) M rb rest T mv0 w):=by
 have hL:=hid (fun r w h=>Zv R rb rc rest T r w h kT)
 have hJ:=hid (fun r v w bx h hx=>Z0 R rb rc bx rest T r v w h kT hx)
 have hI:=hid (fun w h=>ZK ⟨18,xd,xe,xa,xb,xc,ximm,xargs⟩ av w h hf.2.2);have hA:=Zl hR xa;have hB:=Zl hR xb;have hC:=Zl hR xc;obtain⟨ma,mc,rfl,hY⟩:=hm.shape;obtain⟨aa,ac,hQ⟩:=Zb h;subst hQ;have H:=hid h;have HW:=hid hw;have HM:=hid hm;have hK:=hid hp;have HF:=hid hf;have h4:=hid hw.lt;clear h hw hm hp hf hR;unfold mv at hI;unfold mv;have hy:=zH (makes7 ⟨18,xd,xe,xa,xb,xc,ximm,xargs⟩=[xd]) rfl;obtain⟨hT,hS⟩:=hA;obtain⟨h3,h2⟩:=hB;obtain⟨h1,h0⟩:=hC;go_enter Tryz.func169,Tryz.ntmps169
 go_wp2
 refine Zd rfl kK kK
  [Is (.slice (some ⟨rb,0,none⟩) R.length rc),Is (.pointer (some ⟨w.heap.size,3,none⟩)),Is (.int .i64 xa),Is (.int .i32 (getR R xa)),Is (.slice (some ⟨rb,0,none⟩) R.length rc),Is (.pointer (some ⟨w.heap.size,4,none⟩)),Is (.int .i64 xb),Is (.int .i32 (getR R xb)),Is (.slice (some ⟨rb,0,none⟩) R.length rc),Is (.pointer (some ⟨w.heap.size,5,none⟩)),Is (.int .i64 xc),Is (.int .i32 (getR R xc)),Is (.int .i32 (getR R xa)),Is (.int .i32 (getR R xb)),Is (.int .i32 (getR R xc))]
  jS ⟨?_,?_,?_,?_,?_,?_,?_,?_,?_,?_,?_,?_,?_,?_,?_,trivial⟩ ?_
 all_goals
  intro vs w1 hs hk;have hj:∀ i,w1.cell? ⟨w.heap.size,i,none⟩=_:=fun i=>hs.cell (p:=⟨w.heap.size,i,none⟩) kM
  have hi:∀ i,w1.cell? ⟨w.heap.size+1,i,none⟩=_:=fun i=>hs.cell (p:=⟨w.heap.size+1,i,none⟩) kU
  have hb:=zH (w.heap.size+1<w1.heap.size) kh;have HS:=hid (Since.trans (((Since.refl w).alloc _).alloc _) hs);clear hs;simp only[putAll,Act.put,Zk,Zc,Ze,Is,List.setIfInBounds_toArray,List.set_cons_zero,List.set_cons_succ,Nat.reduceAdd,List.length_cons,List.length_nil]at hk ⊢;try simp only[hk]
 iterate 3
  iterate 3
   ·exact jK
  ·exact qT
 iterate 3
  ·exact jK
 ·have he:=hid hj;have hd:=hid hi;clear hk;generalize getR R xa=A at *;generalize getR R xb=B at *;generalize getR R xc=C at *;have hE:=fun w=>W8 2 A ximm w hT hS HF.out.1 HF.out.2.1
  generalize doI 2 A ximm=V at *;have hW:=hid hE;clear hE;have hZ:∀ w,(Instr.index 161 (.agg #[.int .i64 2,.int .i64 5,.int .i64 8,.int .i64 9,.int .i64 10]) (.int .i64 0)).run Tryz.prog w=.ok (.int .i64 2) w:=fun _=>by kernel_rfl
  go_wp2
  refine Zd rfl kK kK
   [Is (.agg #[.int .i64 2,.int .i64 5,.int .i64 8,.int .i64 9,.int .i64 10]),Is (.pointer (some ⟨w.heap.size,0,none⟩)),Is (.int .i64 18),Is (.int .i64 0),Is (.int .i64 2),Is (.int .i32 A),Is (.pointer (some ⟨w.heap.size,6,none⟩)),Is (.int .i32 ximm),Is (.tuple #[.int .i32 (V.getD 0),.bool V.isSome]),Is (.tuple #[.int .i32 (V.getD 0),.bool V.isSome]),Is (.int .i32 (V.getD 0)),Is (.bool V.isSome),Is (.int .i32 (V.getD 0))]
   jS ⟨?_,?_,?_,?_,?_,?_,?_,?_,?_,?_,?_,?_,?_,trivial⟩ ?_
  all_goals
   intro vs w2 hs hk;have ha:∀ i,w2.cell? ⟨w.heap.size,i,none⟩=_:=fun i=>(hs.cell (p:=⟨w.heap.size,i,none⟩) (Nat.lt_of_succ_lt hb.out)).trans (he.out i)
   have hV:=hid hs;clear hs;simp only[putAll,Act.put,Zk,Zc,Ze,Is,List.setIfInBounds_toArray,List.set_cons_zero,List.set_cons_succ,Nat.reduceAdd,List.length_cons,List.length_nil]at hk ⊢;try simp only[hk]
  iterate 8
   ·exact jK
  ·exact yA
  iterate 4
   ·exact jK
  ·exact zi
theorem ZeF (xd xe xa xb xc ximm:Int) (xargs:List Int) (av mv0:Value) (R M:List Int) (rb rc:Nat) (rest:List Value) (T:TypeId) (w:World) (h:Zi w av xargs) (hf:Yw ⟨19,xd,xe,xa,xb,xc,ximm,xargs⟩) (hw:WAt w rb R rest T) (hR:∀ x∈R,In32 x) (hl:R.length≤1000) (hm:MemIs w mv0 M)
  (hp:(∀ q,av.ownBlock=some q→q≠rb∧mv0.ownBlock≠some q)∧mv0.ownBlock≠some rb)  :
  Calls Tryz.prog 169 #[mv ⟨19,xd,xe,xa,xb,xc,ximm,xargs⟩ av,.slice (some ⟨rb,0,none⟩) R.length rc,mv0] w (YN none (setR R xd ((doI 5 (getR R xa) ximm).getD 0)) M rb rest T mv0 w):=by
 have hL:=hid (fun r w h=>Zv R rb rc rest T r w h kT)
 have hJ:=hid (fun r v w bx h hx=>Z0 R rb rc bx rest T r v w h kT hx)
 have hI:=hid (fun w h=>ZK ⟨19,xd,xe,xa,xb,xc,ximm,xargs⟩ av w h hf.2.2);have hA:=Zl hR xa;have hB:=Zl hR xb;have hC:=Zl hR xc;obtain⟨ma,mc,rfl,hY⟩:=hm.shape;obtain⟨aa,ac,hQ⟩:=Zb h;subst hQ;have H:=hid h;have HW:=hid hw;have HM:=hid hm;have hK:=hid hp;have HF:=hid hf;have h4:=hid hw.lt;clear h hw hm hp hf hR;unfold mv at hI;unfold mv;have hy:=zH (makes7 ⟨19,xd,xe,xa,xb,xc,ximm,xargs⟩=[xd]) rfl;obtain⟨hT,hS⟩:=hA;obtain⟨h3,h2⟩:=hB;obtain⟨h1,h0⟩:=hC;go_enter Tryz.func169,Tryz.ntmps169
 go_wp2
 refine Zd rfl kK kK
  [Is (.slice (some ⟨rb,0,none⟩) R.length rc),Is (.pointer (some ⟨w.heap.size,3,none⟩)),Is (.int .i64 xa),Is (.int .i32 (getR R xa)),Is (.slice (some ⟨rb,0,none⟩) R.length rc),Is (.pointer (some ⟨w.heap.size,4,none⟩)),Is (.int .i64 xb),Is (.int .i32 (getR R xb)),Is (.slice (some ⟨rb,0,none⟩) R.length rc),Is (.pointer (some ⟨w.heap.size,5,none⟩)),Is (.int .i64 xc),Is (.int .i32 (getR R xc)),Is (.int .i32 (getR R xa)),Is (.int .i32 (getR R xb)),Is (.int .i32 (getR R xc))]
  jS ⟨?_,?_,?_,?_,?_,?_,?_,?_,?_,?_,?_,?_,?_,?_,?_,trivial⟩ ?_
 all_goals
  intro vs w1 hs hk;have hj:∀ i,w1.cell? ⟨w.heap.size,i,none⟩=_:=fun i=>hs.cell (p:=⟨w.heap.size,i,none⟩) kM
  have hi:∀ i,w1.cell? ⟨w.heap.size+1,i,none⟩=_:=fun i=>hs.cell (p:=⟨w.heap.size+1,i,none⟩) kU
  have hb:=zH (w.heap.size+1<w1.heap.size) kh;have HS:=hid (Since.trans (((Since.refl w).alloc _).alloc _) hs);clear hs;simp only[putAll,Act.put,Zk,Zc,Ze,Is,List.setIfInBounds_toArray,List.set_cons_zero,List.set_cons_succ,Nat.reduceAdd,List.length_cons,List.length_nil]at hk ⊢;try simp only[hk]
 iterate 3
  iterate 3
   ·exact jK
  ·exact qT
 iterate 3
  ·exact jK
 ·have he:=hid hj;have hd:=hid hi;clear hk;generalize getR R xa=A at *;generalize getR R xb=B at *;generalize getR R xc=C at *;have hE:=fun w=>W8 5 A ximm w hT hS HF.out.1 HF.out.2.1
  generalize doI 5 A ximm=V at *;have hW:=hid hE;clear hE;have hZ:∀ w,(Instr.index 161 (.agg #[.int .i64 2,.int .i64 5,.int .i64 8,.int .i64 9,.int .i64 10]) (.int .i64 1)).run Tryz.prog w=.ok (.int .i64 5) w:=fun _=>by kernel_rfl
  go_wp2
  refine Zd rfl kK kK
   [Is (.agg #[.int .i64 2,.int .i64 5,.int .i64 8,.int .i64 9,.int .i64 10]),Is (.pointer (some ⟨w.heap.size,0,none⟩)),Is (.int .i64 19),Is (.int .i64 1),Is (.int .i64 5),Is (.int .i32 A),Is (.pointer (some ⟨w.heap.size,6,none⟩)),Is (.int .i32 ximm),Is (.tuple #[.int .i32 (V.getD 0),.bool V.isSome]),Is (.tuple #[.int .i32 (V.getD 0),.bool V.isSome]),Is (.int .i32 (V.getD 0)),Is (.bool V.isSome),Is (.int .i32 (V.getD 0))]
   jS ⟨?_,?_,?_,?_,?_,?_,?_,?_,?_,?_,?_,?_,?_,trivial⟩ ?_
  all_goals
   intro vs w2 hs hk;have ha:∀ i,w2.cell? ⟨w.heap.size,i,none⟩=_:=fun i=>(hs.cell (p:=⟨w.heap.size,i,none⟩) (Nat.lt_of_succ_lt hb.out)).trans (he.out i)
   have hV:=hid hs;clear hs;simp only[putAll,Act.put,Zk,Zc,Ze,Is,List.setIfInBounds_toArray,List.set_cons_zero,List.set_cons_succ,Nat.reduceAdd,List.length_cons,List.length_nil]at hk ⊢;try simp only[hk]
  iterate 8
   ·exact jK
  ·exact yA
  iterate 4
   ·exact jK
  ·exact zi
theorem ZeE (xd xe xa xb xc ximm:Int) (xargs:List Int) (av mv0:Value) (R M:List Int) (rb rc:Nat) (rest:List Value) (T:TypeId) (w:World) (h:Zi w av xargs) (hf:Yw ⟨20,xd,xe,xa,xb,xc,ximm,xargs⟩) (hw:WAt w rb R rest T) (hR:∀ x∈R,In32 x) (hl:R.length≤1000) (hm:MemIs w mv0 M)
  (hp:(∀ q,av.ownBlock=some q→q≠rb∧mv0.ownBlock≠some q)∧mv0.ownBlock≠some rb)  :
  Calls Tryz.prog 169 #[mv ⟨20,xd,xe,xa,xb,xc,ximm,xargs⟩ av,.slice (some ⟨rb,0,none⟩) R.length rc,mv0] w (YN none (setR R xd ((doI 8 (getR R xa) ximm).getD 0)) M rb rest T mv0 w):=by
 have hL:=hid (fun r w h=>Zv R rb rc rest T r w h kT)
 have hJ:=hid (fun r v w bx h hx=>Z0 R rb rc bx rest T r v w h kT hx)
 have hI:=hid (fun w h=>ZK ⟨20,xd,xe,xa,xb,xc,ximm,xargs⟩ av w h hf.2.2);have hA:=Zl hR xa;have hB:=Zl hR xb;have hC:=Zl hR xc;obtain⟨ma,mc,rfl,hY⟩:=hm.shape;obtain⟨aa,ac,hQ⟩:=Zb h;subst hQ;have H:=hid h;have HW:=hid hw;have HM:=hid hm;have hK:=hid hp;have HF:=hid hf;have h4:=hid hw.lt;clear h hw hm hp hf hR;unfold mv at hI;unfold mv;have hy:=zH (makes7 ⟨20,xd,xe,xa,xb,xc,ximm,xargs⟩=[xd]) rfl;obtain⟨hT,hS⟩:=hA;obtain⟨h3,h2⟩:=hB;obtain⟨h1,h0⟩:=hC;go_enter Tryz.func169,Tryz.ntmps169
 go_wp2
 refine Zd rfl kK kK
  [Is (.slice (some ⟨rb,0,none⟩) R.length rc),Is (.pointer (some ⟨w.heap.size,3,none⟩)),Is (.int .i64 xa),Is (.int .i32 (getR R xa)),Is (.slice (some ⟨rb,0,none⟩) R.length rc),Is (.pointer (some ⟨w.heap.size,4,none⟩)),Is (.int .i64 xb),Is (.int .i32 (getR R xb)),Is (.slice (some ⟨rb,0,none⟩) R.length rc),Is (.pointer (some ⟨w.heap.size,5,none⟩)),Is (.int .i64 xc),Is (.int .i32 (getR R xc)),Is (.int .i32 (getR R xa)),Is (.int .i32 (getR R xb)),Is (.int .i32 (getR R xc))]
  jS ⟨?_,?_,?_,?_,?_,?_,?_,?_,?_,?_,?_,?_,?_,?_,?_,trivial⟩ ?_
 all_goals
  intro vs w1 hs hk;have hj:∀ i,w1.cell? ⟨w.heap.size,i,none⟩=_:=fun i=>hs.cell (p:=⟨w.heap.size,i,none⟩) kM
  have hi:∀ i,w1.cell? ⟨w.heap.size+1,i,none⟩=_:=fun i=>hs.cell (p:=⟨w.heap.size+1,i,none⟩) kU
  have hb:=zH (w.heap.size+1<w1.heap.size) kh;have HS:=hid (Since.trans (((Since.refl w).alloc _).alloc _) hs);clear hs;simp only[putAll,Act.put,Zk,Zc,Ze,Is,List.setIfInBounds_toArray,List.set_cons_zero,List.set_cons_succ,Nat.reduceAdd,List.length_cons,List.length_nil]at hk ⊢;try simp only[hk]
 iterate 3
  iterate 3
   ·exact jK
  ·exact qT
 iterate 3
  ·exact jK
 ·have he:=hid hj;have hd:=hid hi;clear hk;generalize getR R xa=A at *;generalize getR R xb=B at *;generalize getR R xc=C at *;have hE:=fun w=>W8 8 A ximm w hT hS HF.out.1 HF.out.2.1
  generalize doI 8 A ximm=V at *;have hW:=hid hE;clear hE;have hZ:∀ w,(Instr.index 161 (.agg #[.int .i64 2,.int .i64 5,.int .i64 8,.int .i64 9,.int .i64 10]) (.int .i64 2)).run Tryz.prog w=.ok (.int .i64 8) w:=fun _=>by kernel_rfl
  go_wp2
  refine Zd rfl kK kK
   [Is (.agg #[.int .i64 2,.int .i64 5,.int .i64 8,.int .i64 9,.int .i64 10]),Is (.pointer (some ⟨w.heap.size,0,none⟩)),Is (.int .i64 20),Is (.int .i64 2),Is (.int .i64 8),Is (.int .i32 A),Is (.pointer (some ⟨w.heap.size,6,none⟩)),Is (.int .i32 ximm),Is (.tuple #[.int .i32 (V.getD 0),.bool V.isSome]),Is (.tuple #[.int .i32 (V.getD 0),.bool V.isSome]),Is (.int .i32 (V.getD 0)),Is (.bool V.isSome),Is (.int .i32 (V.getD 0))]
   jS ⟨?_,?_,?_,?_,?_,?_,?_,?_,?_,?_,?_,?_,?_,trivial⟩ ?_
  all_goals
   intro vs w2 hs hk;have ha:∀ i,w2.cell? ⟨w.heap.size,i,none⟩=_:=fun i=>(hs.cell (p:=⟨w.heap.size,i,none⟩) (Nat.lt_of_succ_lt hb.out)).trans (he.out i)
   have hV:=hid hs;clear hs;simp only[putAll,Act.put,Zk,Zc,Ze,Is,List.setIfInBounds_toArray,List.set_cons_zero,List.set_cons_succ,Nat.reduceAdd,List.length_cons,List.length_nil]at hk ⊢;try simp only[hk]
  iterate 8
   ·exact jK
  ·exact yA
  iterate 4
   ·exact jK
  ·exact zi
theorem ZeD (xd xe xa xb xc ximm:Int) (xargs:List Int) (av mv0:Value) (R M:List Int) (rb rc:Nat) (rest:List Value) (T:TypeId) (w:World) (h:Zi w av xargs) (hf:Yw ⟨21,xd,xe,xa,xb,xc,ximm,xargs⟩) (hw:WAt w rb R rest T) (hR:∀ x∈R,In32 x) (hl:R.length≤1000) (hm:MemIs w mv0 M)
  (hp:(∀ q,av.ownBlock=some q→q≠rb∧mv0.ownBlock≠some q)∧mv0.ownBlock≠some rb)  :
  Calls Tryz.prog 169 #[mv ⟨21,xd,xe,xa,xb,xc,ximm,xargs⟩ av,.slice (some ⟨rb,0,none⟩) R.length rc,mv0] w (YN none (setR R xd ((doI 9 (getR R xa) ximm).getD 0)) M rb rest T mv0 w):=by
 have hL:=hid (fun r w h=>Zv R rb rc rest T r w h kT)
 have hJ:=hid (fun r v w bx h hx=>Z0 R rb rc bx rest T r v w h kT hx)
 have hI:=hid (fun w h=>ZK ⟨21,xd,xe,xa,xb,xc,ximm,xargs⟩ av w h hf.2.2);have hA:=Zl hR xa;have hB:=Zl hR xb;have hC:=Zl hR xc;obtain⟨ma,mc,rfl,hY⟩:=hm.shape;obtain⟨aa,ac,hQ⟩:=Zb h;subst hQ;have H:=hid h;have HW:=hid hw;have HM:=hid hm;have hK:=hid hp;have HF:=hid hf;have h4:=hid hw.lt;clear h hw hm hp hf hR;unfold mv at hI;unfold mv;have hy:=zH (makes7 ⟨21,xd,xe,xa,xb,xc,ximm,xargs⟩=[xd]) rfl;obtain⟨hT,hS⟩:=hA;obtain⟨h3,h2⟩:=hB;obtain⟨h1,h0⟩:=hC;go_enter Tryz.func169,Tryz.ntmps169
 go_wp2
 refine Zd rfl kK kK
  [Is (.slice (some ⟨rb,0,none⟩) R.length rc),Is (.pointer (some ⟨w.heap.size,3,none⟩)),Is (.int .i64 xa),Is (.int .i32 (getR R xa)),Is (.slice (some ⟨rb,0,none⟩) R.length rc),Is (.pointer (some ⟨w.heap.size,4,none⟩)),Is (.int .i64 xb),Is (.int .i32 (getR R xb)),Is (.slice (some ⟨rb,0,none⟩) R.length rc),Is (.pointer (some ⟨w.heap.size,5,none⟩)),Is (.int .i64 xc),Is (.int .i32 (getR R xc)),Is (.int .i32 (getR R xa)),Is (.int .i32 (getR R xb)),Is (.int .i32 (getR R xc))]
  jS ⟨?_,?_,?_,?_,?_,?_,?_,?_,?_,?_,?_,?_,?_,?_,?_,trivial⟩ ?_
 all_goals
  intro vs w1 hs hk;have hj:∀ i,w1.cell? ⟨w.heap.size,i,none⟩=_:=fun i=>hs.cell (p:=⟨w.heap.size,i,none⟩) kM
  have hi:∀ i,w1.cell? ⟨w.heap.size+1,i,none⟩=_:=fun i=>hs.cell (p:=⟨w.heap.size+1,i,none⟩) kU
  have hb:=zH (w.heap.size+1<w1.heap.size) kh;have HS:=hid (Since.trans (((Since.refl w).alloc _).alloc _) hs);clear hs;simp only[putAll,Act.put,Zk,Zc,Ze,Is,List.setIfInBounds_toArray,List.set_cons_zero,List.set_cons_succ,Nat.reduceAdd,List.length_cons,List.length_nil]at hk ⊢;try simp only[hk]
 iterate 3
  iterate 3
   ·exact jK
  ·exact qT
 iterate 3
  ·exact jK
 ·have he:=hid hj;have hd:=hid hi;clear hk;generalize getR R xa=A at *;generalize getR R xb=B at *;generalize getR R xc=C at *;have hE:=fun w=>W8 9 A ximm w hT hS HF.out.1 HF.out.2.1
  generalize doI 9 A ximm=V at *;have hW:=hid hE;clear hE;have hZ:∀ w,(Instr.index 161 (.agg #[.int .i64 2,.int .i64 5,.int .i64 8,.int .i64 9,.int .i64 10]) (.int .i64 3)).run Tryz.prog w=.ok (.int .i64 9) w:=fun _=>by kernel_rfl
  go_wp2
  refine Zd rfl kK kK
   [Is (.agg #[.int .i64 2,.int .i64 5,.int .i64 8,.int .i64 9,.int .i64 10]),Is (.pointer (some ⟨w.heap.size,0,none⟩)),Is (.int .i64 21),Is (.int .i64 3),Is (.int .i64 9),Is (.int .i32 A),Is (.pointer (some ⟨w.heap.size,6,none⟩)),Is (.int .i32 ximm),Is (.tuple #[.int .i32 (V.getD 0),.bool V.isSome]),Is (.tuple #[.int .i32 (V.getD 0),.bool V.isSome]),Is (.int .i32 (V.getD 0)),Is (.bool V.isSome),Is (.int .i32 (V.getD 0))]
   jS ⟨?_,?_,?_,?_,?_,?_,?_,?_,?_,?_,?_,?_,?_,trivial⟩ ?_
  all_goals
   intro vs w2 hs hk;have ha:∀ i,w2.cell? ⟨w.heap.size,i,none⟩=_:=fun i=>(hs.cell (p:=⟨w.heap.size,i,none⟩) (Nat.lt_of_succ_lt hb.out)).trans (he.out i)
   have hV:=hid hs;clear hs;simp only[putAll,Act.put,Zk,Zc,Ze,Is,List.setIfInBounds_toArray,List.set_cons_zero,List.set_cons_succ,Nat.reduceAdd,List.length_cons,List.length_nil]at hk ⊢;try simp only[hk]
  iterate 8
   ·exact jK
  ·exact yA
  iterate 4
   ·exact jK
  ·exact zi
theorem ZeC (xd xe xa xb xc ximm:Int) (xargs:List Int) (av mv0:Value) (R M:List Int) (rb rc:Nat) (rest:List Value) (T:TypeId) (w:World) (h:Zi w av xargs) (hf:Yw ⟨22,xd,xe,xa,xb,xc,ximm,xargs⟩) (hw:WAt w rb R rest T) (hR:∀ x∈R,In32 x) (hl:R.length≤1000) (hm:MemIs w mv0 M)
  (hp:(∀ q,av.ownBlock=some q→q≠rb∧mv0.ownBlock≠some q)∧mv0.ownBlock≠some rb)  :
  Calls Tryz.prog 169 #[mv ⟨22,xd,xe,xa,xb,xc,ximm,xargs⟩ av,.slice (some ⟨rb,0,none⟩) R.length rc,mv0] w (YN none (setR R xd ((doI 10 (getR R xa) ximm).getD 0)) M rb rest T mv0 w):=by
 have hL:=hid (fun r w h=>Zv R rb rc rest T r w h kT)
 have hJ:=hid (fun r v w bx h hx=>Z0 R rb rc bx rest T r v w h kT hx)
 have hI:=hid (fun w h=>ZK ⟨22,xd,xe,xa,xb,xc,ximm,xargs⟩ av w h hf.2.2);have hA:=Zl hR xa;have hB:=Zl hR xb;have hC:=Zl hR xc;obtain⟨ma,mc,rfl,hY⟩:=hm.shape;obtain⟨aa,ac,hQ⟩:=Zb h;subst hQ;have H:=hid h;have HW:=hid hw;have HM:=hid hm;have hK:=hid hp;have HF:=hid hf;have h4:=hid hw.lt;clear h hw hm hp hf hR;unfold mv at hI;unfold mv;have hy:=zH (makes7 ⟨22,xd,xe,xa,xb,xc,ximm,xargs⟩=[xd]) rfl;obtain⟨hT,hS⟩:=hA;obtain⟨h3,h2⟩:=hB;obtain⟨h1,h0⟩:=hC;go_enter Tryz.func169,Tryz.ntmps169
 go_wp2
 refine Zd rfl kK kK
  [Is (.slice (some ⟨rb,0,none⟩) R.length rc),Is (.pointer (some ⟨w.heap.size,3,none⟩)),Is (.int .i64 xa),Is (.int .i32 (getR R xa)),Is (.slice (some ⟨rb,0,none⟩) R.length rc),Is (.pointer (some ⟨w.heap.size,4,none⟩)),Is (.int .i64 xb),Is (.int .i32 (getR R xb)),Is (.slice (some ⟨rb,0,none⟩) R.length rc),Is (.pointer (some ⟨w.heap.size,5,none⟩)),Is (.int .i64 xc),Is (.int .i32 (getR R xc)),Is (.int .i32 (getR R xa)),Is (.int .i32 (getR R xb)),Is (.int .i32 (getR R xc))]
  jS ⟨?_,?_,?_,?_,?_,?_,?_,?_,?_,?_,?_,?_,?_,?_,?_,trivial⟩ ?_
 all_goals
  intro vs w1 hs hk;have hj:∀ i,w1.cell? ⟨w.heap.size,i,none⟩=_:=fun i=>hs.cell (p:=⟨w.heap.size,i,none⟩) kM
  have hi:∀ i,w1.cell? ⟨w.heap.size+1,i,none⟩=_:=fun i=>hs.cell (p:=⟨w.heap.size+1,i,none⟩) kU
  have hb:=zH (w.heap.size+1<w1.heap.size) kh;have HS:=hid (Since.trans (((Since.refl w).alloc _).alloc _) hs);clear hs;simp only[putAll,Act.put,Zk,Zc,Ze,Is,List.setIfInBounds_toArray,List.set_cons_zero,List.set_cons_succ,Nat.reduceAdd,List.length_cons,List.length_nil]at hk ⊢;try simp only[hk]
 iterate 3
  iterate 3
   ·exact jK
  ·exact qT
 iterate 3
  ·exact jK
 ·have he:=hid hj;have hd:=hid hi;clear hk;generalize getR R xa=A at *;generalize getR R xb=B at *;generalize getR R xc=C at *;have hE:=fun w=>W8 10 A ximm w hT hS HF.out.1 HF.out.2.1
  generalize doI 10 A ximm=V at *;have hW:=hid hE;clear hE;have hZ:∀ w,(Instr.index 161 (.agg #[.int .i64 2,.int .i64 5,.int .i64 8,.int .i64 9,.int .i64 10]) (.int .i64 4)).run Tryz.prog w=.ok (.int .i64 10) w:=fun _=>by kernel_rfl
  go_wp2
  refine Zd rfl kK kK
   [Is (.agg #[.int .i64 2,.int .i64 5,.int .i64 8,.int .i64 9,.int .i64 10]),Is (.pointer (some ⟨w.heap.size,0,none⟩)),Is (.int .i64 22),Is (.int .i64 4),Is (.int .i64 10),Is (.int .i32 A),Is (.pointer (some ⟨w.heap.size,6,none⟩)),Is (.int .i32 ximm),Is (.tuple #[.int .i32 (V.getD 0),.bool V.isSome]),Is (.tuple #[.int .i32 (V.getD 0),.bool V.isSome]),Is (.int .i32 (V.getD 0)),Is (.bool V.isSome),Is (.int .i32 (V.getD 0))]
   jS ⟨?_,?_,?_,?_,?_,?_,?_,?_,?_,?_,?_,?_,?_,trivial⟩ ?_
  all_goals
   intro vs w2 hs hk;have ha:∀ i,w2.cell? ⟨w.heap.size,i,none⟩=_:=fun i=>(hs.cell (p:=⟨w.heap.size,i,none⟩) (Nat.lt_of_succ_lt hb.out)).trans (he.out i)
   have hV:=hid hs;clear hs;simp only[putAll,Act.put,Zk,Zc,Ze,Is,List.setIfInBounds_toArray,List.set_cons_zero,List.set_cons_succ,Nat.reduceAdd,List.length_cons,List.length_nil]at hk ⊢;try simp only[hk]
  iterate 8
   ·exact jK
  ·exact yA
  iterate 4
   ·exact jK
  ·exact zi
theorem Zd3 (m:Mach) (av mv0:Value) (R M:List Int) (rb rc:Nat) (rest:List Value) (T:TypeId) (w:World) (h:Zi w av m.args) (hf:Yw m) (hw:WAt w rb R rest T) (hR:∀ x∈R,In32 x) (hl:R.length≤1000) (hm:MemIs w mv0 M)
  (ha:(∀ q,av.ownBlock=some q→q≠rb∧mv0.ownBlock≠some q)∧mv0.ownBlock≠some rb) :
  Calls Tryz.prog 169 #[mv m av,.slice (some ⟨rb,0,none⟩) R.length rc,mv0] w (YN (doM m R M).1 (doM m R M).2.1 (doM m R M).2.2 rb rest T mv0 w):=by
 have key:m.op=1∨m.op=2∨(m.op=3∨m.op=4)∨(5≤m.op∧m.op≤17)∨m.op=18∨m.op=19∨m.op=20∨m.op=21∨m.op=22∨m.op=23∨m.op=24∨m.op=25∨m.op=26∨m.op=27∨m.op=29∨(m.op<1∨m.op=28∨30≤m.op):=kT
 rcases key with ho|ho|ho|ho|ho|ho|ho|ho|ho|ho|ho|ho|ho|ho|ho|ho
 ·have e:doM m R M=(none,setR R m.d (getR R m.a),M):=by unfold doM;dsimp only;rw[if_pos kT]
  rw[e];exact Zfg m av mv0 R M rb rc rest T w h hf hw hR hl hm ha ho
 ·have e:doM m R M=(none,setR (setR R m.a (getR R m.b)) m.b (getR R m.a),M):=by unfold doM;dsimp only;rw[if_neg kT,if_pos kT]
  rw[e];exact Zff m av mv0 R M rb rc rest T w h hf hw hR hl hm ha ho
 ·have e:doM m R M=(none,setR R m.d m.imm,M):=by unfold doM;dsimp only;rw[if_neg kT,if_neg kT,if_pos kT]
  rw[e];exact Zez m av mv0 R M rb rc rest T w h hf hw hR hl hm ha ho
 ·have e:doM m R M=(match doI (m.op-5+2) (getR R m.a) (getR R m.b) with | none=>(some (-1),R,M) | some v=>(none,setR R m.d v,M)):=by unfold doM;dsimp only;rw[if_neg kT,if_neg kT,if_neg kT,if_pos kT,show m.op-3=m.op-5+2 from by omega];cases doI (m.op-5+2) (getR R m.a) (getR R m.b)<;>rfl
  rw[e]
  cases hv:doI (m.op-5+2) (getR R m.a) (getR R m.b) with
  | none=>exact Zc5 m av mv0 R M rb rc rest T w h hf hw hR hl hm ha ho hv
  | some v=>exact Zd4 m av mv0 R M rb rc rest T w h hf hw hR hl hm ha ho v hv
 ·obtain⟨op,xd,xe,xa,xb,xc,ximm,xargs⟩:=m;dsimp only at ho;subst ho;exact ZeG xd xe xa xb xc ximm xargs av mv0 R M rb rc rest T w h hf hw hR hl hm ha
 ·obtain⟨op,xd,xe,xa,xb,xc,ximm,xargs⟩:=m;dsimp only at ho;subst ho;exact ZeF xd xe xa xb xc ximm xargs av mv0 R M rb rc rest T w h hf hw hR hl hm ha
 ·obtain⟨op,xd,xe,xa,xb,xc,ximm,xargs⟩:=m;dsimp only at ho;subst ho;exact ZeE xd xe xa xb xc ximm xargs av mv0 R M rb rc rest T w h hf hw hR hl hm ha
 ·obtain⟨op,xd,xe,xa,xb,xc,ximm,xargs⟩:=m;dsimp only at ho;subst ho;exact ZeD xd xe xa xb xc ximm xargs av mv0 R M rb rc rest T w h hf hw hR hl hm ha
 ·obtain⟨op,xd,xe,xa,xb,xc,ximm,xargs⟩:=m;dsimp only at ho;subst ho;exact ZeC xd xe xa xb xc ximm xargs av mv0 R M rb rc rest T w h hf hw hR hl hm ha
 ·have e:doM m R M=(none,setR R m.d (wrap32 (wrap32 (getR R m.a*getR R m.b)+getR R m.c)),M):=by unfold doM;dsimp only;rw[if_neg kT,if_neg kT,if_neg kT,if_neg kT,if_neg kT,if_pos kT]
  rw[e];exact ZeB m av mv0 R M rb rc rest T w h hf hw hR hl hm ha ho
 ·have e:doM m R M=if 0≤wrap32 (getR R m.a+m.imm)∧wrap32 (getR R m.a+m.imm)<(M.length:Int) then (none,setR R m.d (M.getD (wrap32 (getR R m.a+m.imm)).toNat 0),M) else (some (-2),R,M):=by
   exact jb
  rw[e];by_cases hb:0≤wrap32 (getR R m.a+m.imm)∧wrap32 (getR R m.a+m.imm)<(M.length:Int)
  ·rw[if_pos hb];exact Zcf m av mv0 R M rb rc rest T w h hf hw hR hl hm ha ho hb
  ·rw[if_neg hb];exact Zcg m av mv0 R M rb rc rest T w h hf hw hR hl hm ha ho hb
 ·have e:doM m R M=if 0≤wrap32 (getR R m.a+getR R m.b)∧wrap32 (getR R m.a+getR R m.b)<(M.length:Int) then (none,setR R m.d (M.getD (wrap32 (getR R m.a+getR R m.b)).toNat 0),M) else (some (-2),R,M):=by
   exact jb
  rw[e];by_cases hb:0≤wrap32 (getR R m.a+getR R m.b)∧wrap32 (getR R m.a+getR R m.b)<(M.length:Int)
  ·rw[if_pos hb];exact Zcd m av mv0 R M rb rc rest T w h hf hw hR hl hm ha ho hb
  ·rw[if_neg hb];exact Zce m av mv0 R M rb rc rest T w h hf hw hR hl hm ha ho hb
 ·have e:doM m R M=if 0≤wrap32 (getR R m.a+m.imm)∧wrap32 (getR R m.a+m.imm)<(M.length:Int) then (none,R,M.set (wrap32 (getR R m.a+m.imm)).toNat (getR R m.b)) else (some (-2),R,M):=by
   exact jb
  rw[e];by_cases hb:0≤wrap32 (getR R m.a+m.imm)∧wrap32 (getR R m.a+m.imm)<(M.length:Int)
  ·rw[if_pos hb];exact Zcb m av mv0 R M rb rc rest T w h hf hw hR hl hm ha ho hb
  ·rw[if_neg hb];exact Zcc m av mv0 R M rb rc rest T w h hf hw hR hl hm ha ho hb
 ·have e:doM m R M=if 0≤wrap32 (getR R m.a+getR R m.b)∧wrap32 (getR R m.a+getR R m.b)<(M.length:Int) then (none,R,M.set (wrap32 (getR R m.a+getR R m.b)).toNat (getR R m.c)) else (some (-2),R,M):=by
   exact jb
  rw[e];by_cases hb:0≤wrap32 (getR R m.a+getR R m.b)∧wrap32 (getR R m.a+getR R m.b)<(M.length:Int)
  ·rw[if_pos hb];exact Zb9 m av mv0 R M rb rc rest T w h hf hw hR hl hm ha ho hb
  ·rw[if_neg hb];exact Zca m av mv0 R M rb rc rest T w h hf hw hR hl hm ha ho hb
 ·have e:doM m R M=(none,setR (setR R m.d (lowI (getR R m.a) (getR R m.b))) m.e (highI (getR R m.a) (getR R m.b)),M):=by unfold doM;dsimp only;rw[if_neg kT,if_neg kT,if_neg kT,if_neg kT,if_neg kT,if_neg kT,if_neg kT,if_neg kT,if_pos kT]
  rw[e];exact ZeA m av mv0 R M rb rc rest T w h hf hw hR hl hm ha ho
 ·have e:doM m R M=(none,R,M):=by unfold doM;dsimp only;rw[if_neg kT,if_neg kT,if_neg kT,if_neg kT,if_neg kT,if_neg kT,if_neg kT,if_neg kT,if_neg kT]
  rw[e];exact Zc6 m av mv0 R M rb rc rest T w h hf hw hR hl hm ha ho
end Go.Proofs.YtimpddecdodddaaGreat
