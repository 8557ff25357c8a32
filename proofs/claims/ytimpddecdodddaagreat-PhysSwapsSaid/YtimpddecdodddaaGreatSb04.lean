import Derived.Test.YtimpddecdodddaaGreatSb03
namespace Go.Proofs.YtimpddecdodddaaGreat
open Go.RowKit Go.Lib
set_option linter.unusedVariables false
set_option maxHeartbeats 1000000
set_option maxRecDepth 100000
theorem zc {P:Prop} (h:P:=by
 clear ha ho;obtain⟨hV,hU⟩:=hA;obtain⟨hT,hS⟩:=hB;obtain⟨hQ,hP⟩:=hC;go_enter Tryz.func169,Tryz.ntmps169
 go_wp2
 refine Zd rfl (by decide +kernel) (by decide +kernel)
  [Is (.slice (some ⟨rb,0,none⟩) R.length rc),Is (.pointer (some ⟨w.heap.size,3,none⟩)),Is (.int .i64 m.a),Is (.int .i32 (getR R m.a)),Is (.slice (some ⟨rb,0,none⟩) R.length rc),Is (.pointer (some ⟨w.heap.size,4,none⟩)),Is (.int .i64 m.b),Is (.int .i32 (getR R m.b)),Is (.slice (some ⟨rb,0,none⟩) R.length rc),Is (.pointer (some ⟨w.heap.size,5,none⟩)),Is (.int .i64 m.c),Is (.int .i32 (getR R m.c)),Is (.int .i32 (getR R m.a)),Is (.int .i32 (getR R m.b)),Is (.int .i32 (getR R m.c))]
  (by repeat (first | exact trivial | refine⟨Is.stable _,?_⟩ | refine⟨Zn.stable _ _,?_⟩ | refine⟨Zz.stable _ _,?_⟩)) ⟨?_,?_,?_,?_,?_,?_,?_,?_,?_,?_,?_,?_,?_,?_,?_,trivial⟩ ?_
 all_goals
  intro vs w1 hs hk;have hy:∀ i,w1.cell? ⟨w.heap.size,i,none⟩=_:=fun i=>hs.cell (p:=⟨w.heap.size,i,none⟩) (by simp<;>omega)
  have hv:∀ i,w1.cell? ⟨w.heap.size+1,i,none⟩=_:=fun i=>hs.cell (p:=⟨w.heap.size+1,i,none⟩) (by simp)
  have hJ:=zH (w.heap.size+1<w1.heap.size) (by have:=hs.size;simp at this;omega);have HS:=hid (Since.trans (((Since.refl w).alloc _).alloc _) hs);clear hs;simp only[putAll,Act.put,Zk,Zc,Ze,Is,List.setIfInBounds_toArray,List.set_cons_zero,List.set_cons_succ,Nat.reduceAdd,List.length_cons,List.length_nil]at hk ⊢;try simp only[hk]
 iterate 3
  iterate 3
   ·go_wp2
    exact⟨_,rfl,rfl,.refl _⟩
  ·go_wp2_with fail
   refine (hF.out _ w1 (HW.out.keep HS.out)).mono ?_;rintro e w2 ⟨rfl,rfl⟩;go_wp2
   exact⟨_,rfl,rfl,.refl _⟩
 iterate 3
  ·go_wp2
   exact⟨_,rfl,rfl,.refl _⟩
 ·have hX:=hid hy;have hL:=hid hv;clear hk;generalize getR R m.a=A at *;generalize getR R m.b=B at *;generalize getR R m.c=C at *;go_wp2_with fail
  refine (hn.out _ (HM.out.keep HS.out)).mono ?_;rintro e2 w2 ⟨rfl,rfl⟩;go_wp2_with fail
  refine (hz.out _ (H.out.keep HS.out)).mono ?_;rw[hj.out];rintro e5 w5 ⟨v5,rfl,hd,hg⟩;obtain⟨ka,kc,rfl⟩:=Zb hd;obtain⟨_,hu⟩:=Zx hd;obtain⟨kb,ko,rfl,_,hb⟩:=hu (by simp);have hG:w5.cell? ⟨kb,ko,none⟩=some (.int .i64 m.d):=hb 0 _ rfl;have hc:=hid (HS.out.trans hg);have hh:w5.cell? ⟨w.heap.size+1,0,none⟩=_:=(hg.cell (p:=⟨w.heap.size+1,0,none⟩) hJ.out).trans (hL.out 0);have ht:=hD.out m.d (x) w5 (w.heap.size+1) (HW.out.keep hc.out) (hh.trans (ZW _ _ _ _));have hK:=hid ht;clear hu hb hd hg hh hy hv ht;go_wp2
  go_loopw [189] (fun i wr=>∃ t:Nat,i=.int .i64 t∧(t=0∧wr=w5∨t=1∧wr=Y9 w5 rb R m.d (x))) (fun i _=>1-(intOf i).toNat)
  case atStart=>exact⟨0,rfl,.inl ⟨rfl,rfl⟩⟩
  case round =>
   obtain⟨t,rfl,⟨rfl,rfl⟩|⟨rfl,hp⟩⟩:=hrel
   ·go_wp2_with fail
    refine hK.out.mono ?_;rintro e6 w6 ⟨rfl,hr⟩;have hI:=hid hr;clear hr;go_wp2
    go_roundw
    case rel=>exact⟨1,rfl,.inr ⟨rfl,hI.out⟩⟩
    case measure=>simp[intOf]
   ·have hi:=hid hp;clear hp hG;go_wp2
    go_ret2
    exact⟨rfl,by rw[hi.out];exact YO (HW.out.keep hc.out) _ _,by rw[hi.out];exact (HM.out.keep hc.out).turn (ZJ (S:=fun k=>k=rb) rfl _ _ _) (fun q hq e=>hE.out.2 (by rw[hq,e])),by rw[hi.out];exact (Turn.since hc.out).trans (ZJ (S:=fun k=>k=rb∨_) (.inl rfl) _ _ _)⟩):P:=h
theorem zh {P:Prop} (h:P:=by
 clear hb ho;obtain⟨hD,hz⟩:=hA;obtain⟨hy,hv⟩:=hB;obtain⟨hu,ht⟩:=hC;go_enter Tryz.func169,Tryz.ntmps169
 go_wp2
 refine Zd rfl (by decide +kernel) (by decide +kernel)
  [Is (.slice (some ⟨rb,0,none⟩) R.length rc),Is (.pointer (some ⟨w.heap.size,3,none⟩)),Is (.int .i64 m.a),Is (.int .i32 (getR R m.a)),Is (.slice (some ⟨rb,0,none⟩) R.length rc),Is (.pointer (some ⟨w.heap.size,4,none⟩)),Is (.int .i64 m.b),Is (.int .i32 (getR R m.b)),Is (.slice (some ⟨rb,0,none⟩) R.length rc),Is (.pointer (some ⟨w.heap.size,5,none⟩)),Is (.int .i64 m.c),Is (.int .i32 (getR R m.c)),Is (.int .i32 (getR R m.a)),Is (.int .i32 (getR R m.b)),Is (.int .i32 (getR R m.c))]
  (by repeat (first | exact trivial | refine⟨Is.stable _,?_⟩ | refine⟨Zn.stable _ _,?_⟩ | refine⟨Zz.stable _ _,?_⟩)) ⟨?_,?_,?_,?_,?_,?_,?_,?_,?_,?_,?_,?_,?_,?_,?_,trivial⟩ ?_
 all_goals
  intro vs w1 hs hk;have hg:∀ i,w1.cell? ⟨w.heap.size,i,none⟩=_:=fun i=>hs.cell (p:=⟨w.heap.size,i,none⟩) (by simp<;>omega)
  have he:∀ i,w1.cell? ⟨w.heap.size+1,i,none⟩=_:=fun i=>hs.cell (p:=⟨w.heap.size+1,i,none⟩) (by simp)
  have hE:=zH (w.heap.size+1<w1.heap.size) (by have:=hs.size;simp at this;omega);have HS:=hid (Since.trans (((Since.refl w).alloc _).alloc _) hs);clear hs;simp only[putAll,Act.put,Zk,Zc,Ze,Is,List.setIfInBounds_toArray,List.set_cons_zero,List.set_cons_succ,Nat.reduceAdd,List.length_cons,List.length_nil]at hk ⊢;try simp only[hk]
 iterate 3
  iterate 3
   ·go_wp2
    exact⟨_,rfl,rfl,.refl _⟩
  ·go_wp2_with fail
   refine (hd.out _ w1 (HW.out.keep HS.out)).mono ?_;rintro e w2 ⟨rfl,rfl⟩;go_wp2
   exact⟨_,rfl,rfl,.refl _⟩
 iterate 3
  ·go_wp2
   exact⟨_,rfl,rfl,.refl _⟩
 ·have hH:=hid hg;have hG:=hid he;clear hk;generalize getR R m.a=A at *;generalize getR R m.b=B at *;generalize getR R m.c=C at *;go_wp2_with fail
  refine (hc.out _ (HM.out.keep HS.out)).mono ?_;rintro e2 w2 ⟨rfl,rfl⟩;go_wp2
  go_ret2
  exact⟨rfl,HW.out.keep HS.out,HM.out.keep HS.out,Turn.since HS.out⟩):P:=h
theorem jj {P:Prop} (h:P:=by
 rintro e w2 ⟨rfl,rfl⟩;go_wp2
 exact⟨_,rfl,rfl,.refl _⟩):P:=h
theorem Zd4 (m:Mach) (av mv0:Value) (R M:List Int) (rb rc:Nat) (rest:List Value) (T:TypeId) (w:World) (h:Zi w av m.args) (hf:Yw m) (hw:WAt w rb R rest T) (hR:∀ x∈R,In32 x) (hl:R.length≤1000) (hm:MemIs w mv0 M)
  (hr:(∀ q,av.ownBlock=some q→q≠rb∧mv0.ownBlock≠some q)∧mv0.ownBlock≠some rb) (ho:5≤m.op∧m.op≤17) (v:Int) (hv:doI (m.op-5+2) (getR R m.a) (getR R m.b)=some v) :
  Calls Tryz.prog 169 #[mv m av,.slice (some ⟨rb,0,none⟩) R.length rc,mv0] w (YN none (setR R m.d v) M rb rest T mv0 w):=by
 have hM:=hid (fun r w h=>Zv R rb rc rest T r w h kT)
 have hK:=hid (fun r v w bx h hx=>Z0 R rb rc bx rest T r v w h kT hx)
 have hJ:=hid (fun w h=>ZK m av w h hf.2.2);have hA:=Zl hR m.a;have hB:=Zl hR m.b;have hC:=Zl hR m.c;obtain⟨ma,mc,rfl,hY⟩:=hm.shape;obtain⟨aa,ac,hQ⟩:=Zb h;subst hQ;have H:=hid h;have HW:=hid hw;have HM:=hid hm;have hL:=hid hr;have HF:=hid hf;have h1:=hid hw.lt;clear h hw hm hr hf hR;unfold mv at hJ;unfold mv;have hD:=zH (makes7 m=[m.d]) jZ;have n1:=zN m.op 1;have n2:=zN m.op 2;have n3:=zN m.op 3;have n4:=zN m.op 4;have g5:5≤m.op:=ho.1;have g17:m.op≤17:=ho.2;have HV:=hid hv;clear hv ho;obtain⟨hV,hU⟩:=hA;obtain⟨hT,hS⟩:=hB;obtain⟨h0,hZ⟩:=hC;go_enter Tryz.func169,Tryz.ntmps169
 go_wp2
 refine Zd rfl kK kK
  [Is (.slice (some ⟨rb,0,none⟩) R.length rc),Is (.pointer (some ⟨w.heap.size,3,none⟩)),Is (.int .i64 m.a),Is (.int .i32 (getR R m.a)),Is (.slice (some ⟨rb,0,none⟩) R.length rc),Is (.pointer (some ⟨w.heap.size,4,none⟩)),Is (.int .i64 m.b),Is (.int .i32 (getR R m.b)),Is (.slice (some ⟨rb,0,none⟩) R.length rc),Is (.pointer (some ⟨w.heap.size,5,none⟩)),Is (.int .i64 m.c),Is (.int .i32 (getR R m.c)),Is (.int .i32 (getR R m.a)),Is (.int .i32 (getR R m.b)),Is (.int .i32 (getR R m.c))]
  jS ⟨?_,?_,?_,?_,?_,?_,?_,?_,?_,?_,?_,?_,?_,?_,?_,trivial⟩ ?_
 all_goals
  intro vs w1 hs hk;have hi:∀ i,w1.cell? ⟨w.heap.size,i,none⟩=_:=fun i=>hs.cell (p:=⟨w.heap.size,i,none⟩) kM
  have hh:∀ i,w1.cell? ⟨w.heap.size+1,i,none⟩=_:=fun i=>hs.cell (p:=⟨w.heap.size+1,i,none⟩) kU
  have hb:=zH (w.heap.size+1<w1.heap.size) kh;have HS:=hid (Since.trans (((Since.refl w).alloc _).alloc _) hs);clear hs;simp only[putAll,Act.put,Zk,Zc,Ze,Is,List.setIfInBounds_toArray,List.set_cons_zero,List.set_cons_succ,Nat.reduceAdd,List.length_cons,List.length_nil]at hk ⊢;try simp only[hk]
 iterate 3
  iterate 3
   ·exact jK
  ·go_wp2_with fail
   refine (hM.out _ w1 (HW.out.keep HS.out)).mono ?_;exact jj
 iterate 3
  ·exact jK
 ·have hn:=hid hi;have hc:=hid hh;clear hk;generalize getR R m.a=A at *;generalize getR R m.b=B at *;generalize getR R m.c=C at *;go_wp2_with fail
  refine (W8 (m.op-5+2) A B _ hV hU hT hS).mono ?_;rw[HV.out];rintro e2 w2 ⟨rfl,ha⟩;have he:∀ i,w2.cell? ⟨w.heap.size,i,none⟩=_:=fun i=>(ha.cell (p:=⟨w.heap.size,i,none⟩) (Nat.lt_of_succ_lt hb.out)).trans (hn.out i)
  have hd:∀ i,w2.cell? ⟨w.heap.size+1,i,none⟩=_:=fun i=>(ha.cell (p:=⟨w.heap.size+1,i,none⟩) hb.out).trans (hc.out i)
  have hO:=hn;have hN:=hc;have hz:=hb;have hI:=HS;clear hi hh hn hc;have hn:=hid he;have hc:=hid hd;have hb:=hid (Nat.lt_of_lt_of_le hz.out ha.size);have HS:=hid (hI.out.trans ha);have hi:=he;have hh:=hd;clear he hd hO hN hz hI ha;go_wp2_with fail
  refine (hJ.out _ (H.out.keep HS.out)).mono ?_;rw[hD.out];rintro e5 w5 ⟨v5,rfl,hp,ht⟩;obtain⟨ka,kc,rfl⟩:=Zb hp;obtain⟨_,hH⟩:=Zx hp;obtain⟨kb,ko,rfl,_,hg⟩:=hH kU;have hP:w5.cell? ⟨kb,ko,none⟩=some (.int .i64 m.d):=hg 0 _ rfl;have hj:=hid (HS.out.trans ht);have hu:w5.cell? ⟨w.heap.size+1,0,none⟩=_:=(ht.cell (p:=⟨w.heap.size+1,0,none⟩) hb.out).trans (hc.out 0);have hG:=hK.out m.d (v) w5 (w.heap.size+1) (HW.out.keep hj.out) (hu.trans (ZW _ _ _ _));have hX:=hid hG;clear hH hg hp ht hu hi hh hG;go_wp2
  go_loopw [189] (fun i wr=>∃ t:Nat,i=.int .i64 t∧(t=0∧wr=w5∨t=1∧wr=Y9 w5 rb R m.d (v))) (fun i _=>1-(intOf i).toNat)
  case atStart=>exact⟨0,rfl,.inl ⟨rfl,rfl⟩⟩
  case round =>
   obtain⟨t,rfl,⟨rfl,rfl⟩|⟨rfl,hE⟩⟩:=hrel
   ·go_wp2_with fail
    refine hX.out.mono ?_;rintro e6 w6 ⟨rfl,hF⟩;have hW:=hid hF;clear hF;go_wp2
    go_roundw
    case rel=>exact⟨1,rfl,.inr ⟨rfl,hW.out⟩⟩
    case measure=>simp[intOf]
   ·have hy:=hid hE;clear hE hP;go_wp2
    go_ret2
    exact⟨rfl,by rw[hy.out];exact YO (HW.out.keep hj.out) _ _,by rw[hy.out];exact (HM.out.keep hj.out).turn (ZJ (S:=fun k=>k=rb) rfl _ _ _) (fun q hq e=>hL.out.2 (by rw[hq,e])),by rw[hy.out];exact (Turn.since hj.out).trans (ZJ (S:=fun k=>k=rb∨_) (.inl rfl) _ _ _)⟩
theorem Zc5 (m:Mach) (av mv0:Value) (R M:List Int) (rb rc:Nat) (rest:List Value) (T:TypeId) (w:World) (h:Zi w av m.args) (hf:Yw m) (hw:WAt w rb R rest T) (hR:∀ x∈R,In32 x) (hl:R.length≤1000) (hm:MemIs w mv0 M)
  (hh:(∀ q,av.ownBlock=some q→q≠rb∧mv0.ownBlock≠some q)∧mv0.ownBlock≠some rb) (ho:5≤m.op∧m.op≤17) (hv:doI (m.op-5+2) (getR R m.a) (getR R m.b)=none) :
  Calls Tryz.prog 169 #[mv m av,.slice (some ⟨rb,0,none⟩) R.length rc,mv0] w (YN (some (-1)) R M rb rest T mv0 w):=by
 have hq:=hid (fun r w h=>Zv R rb rc rest T r w h kT)
 have hG:=hid (fun r v w bx h hx=>Z0 R rb rc bx rest T r v w h kT hx)
 have hF:=hid (fun w h=>ZK m av w h hf.2.2);have hA:=Zl hR m.a;have hB:=Zl hR m.b;have hC:=Zl hR m.c;obtain⟨ma,mc,rfl,hI⟩:=hm.shape;obtain⟨aa,ac,hu⟩:=Zb h;subst hu;have H:=hid h;have HW:=hid hw;have HM:=hid hm;have hH:=hid hh;have HF:=hid hf;have hL:=hid hw.lt;clear h hw hm hh hf hR;unfold mv at hF;unfold mv;have n1:=zN m.op 1;have n2:=zN m.op 2;have n3:=zN m.op 3;have n4:=zN m.op 4;have g5:5≤m.op:=ho.1;have g17:m.op≤17:=ho.2;have HV:=hid hv;clear hv ho;obtain⟨hE,hD⟩:=hA;obtain⟨hz,hy⟩:=hB;obtain⟨hK,hJ⟩:=hC;go_enter Tryz.func169,Tryz.ntmps169
 go_wp2
 refine Zd rfl kK kK
  [Is (.slice (some ⟨rb,0,none⟩) R.length rc),Is (.pointer (some ⟨w.heap.size,3,none⟩)),Is (.int .i64 m.a),Is (.int .i32 (getR R m.a)),Is (.slice (some ⟨rb,0,none⟩) R.length rc),Is (.pointer (some ⟨w.heap.size,4,none⟩)),Is (.int .i64 m.b),Is (.int .i32 (getR R m.b)),Is (.slice (some ⟨rb,0,none⟩) R.length rc),Is (.pointer (some ⟨w.heap.size,5,none⟩)),Is (.int .i64 m.c),Is (.int .i32 (getR R m.c)),Is (.int .i32 (getR R m.a)),Is (.int .i32 (getR R m.b)),Is (.int .i32 (getR R m.c))]
  jS ⟨?_,?_,?_,?_,?_,?_,?_,?_,?_,?_,?_,?_,?_,?_,?_,trivial⟩ ?_
 all_goals
  intro vs w1 hs hk;have hj:∀ i,w1.cell? ⟨w.heap.size,i,none⟩=_:=fun i=>hs.cell (p:=⟨w.heap.size,i,none⟩) kM
  have hi:∀ i,w1.cell? ⟨w.heap.size+1,i,none⟩=_:=fun i=>hs.cell (p:=⟨w.heap.size+1,i,none⟩) kU
  have hd:=zH (w.heap.size+1<w1.heap.size) kh;have HS:=hid (Since.trans (((Since.refl w).alloc _).alloc _) hs);clear hs;simp only[putAll,Act.put,Zk,Zc,Ze,Is,List.setIfInBounds_toArray,List.set_cons_zero,List.set_cons_succ,Nat.reduceAdd,List.length_cons,List.length_nil]at hk ⊢;try simp only[hk]
 iterate 3
  iterate 3
   ·exact jK
  ·go_wp2_with fail
   refine (hq.out _ w1 (HW.out.keep HS.out)).mono ?_;exact jj
 iterate 3
  ·exact jK
 ·have hg:=hid hj;have he:=hid hi;clear hk;generalize getR R m.a=A at *;generalize getR R m.b=B at *;generalize getR R m.c=C at *;go_wp2_with fail
  refine (W8 (m.op-5+2) A B _ hE hD hz hy).mono ?_;rw[HV.out];rintro e2 w2 ⟨rfl,ha⟩;have hc:∀ i,w2.cell? ⟨w.heap.size,i,none⟩=_:=fun i=>(ha.cell (p:=⟨w.heap.size,i,none⟩) (Nat.lt_of_succ_lt hd.out)).trans (hg.out i)
  have hb:∀ i,w2.cell? ⟨w.heap.size+1,i,none⟩=_:=fun i=>(ha.cell (p:=⟨w.heap.size+1,i,none⟩) hd.out).trans (he.out i)
  have ht:=hg;have hr:=he;have hn:=hd;have hp:=HS;clear hj hi hg he;have hg:=hid hc;have he:=hid hb;have hd:=hid (Nat.lt_of_lt_of_le hn.out ha.size);have HS:=hid (hp.out.trans ha);have hj:=hc;have hi:=hb;clear hc hb ht hr hn hp ha;go_wp2
  go_ret2
  exact⟨rfl,HW.out.keep HS.out,HM.out.keep HS.out,Turn.since HS.out⟩
theorem Zcf (m:Mach) (av mv0:Value) (R M:List Int) (rb rc:Nat) (rest:List Value) (T:TypeId) (w:World) (h:Zi w av m.args) (hf:Yw m) (hw:WAt w rb R rest T) (hR:∀ x∈R,In32 x) (hl:R.length≤1000) (hm:MemIs w mv0 M)
  (he:(∀ q,av.ownBlock=some q→q≠rb∧mv0.ownBlock≠some q)∧mv0.ownBlock≠some rb) (ho:m.op=24) (ha:0≤wrap32 (getR R m.a+m.imm)∧wrap32 (getR R m.a+m.imm)<(M.length:Int)) :
  Calls Tryz.prog 169 #[mv m av,.slice (some ⟨rb,0,none⟩) R.length rc,mv0] w (YN none (setR R m.d (M.getD (wrap32 (getR R m.a+m.imm)).toNat 0)) M rb rest T mv0 w):=by
 have hF:=hid (fun r w h=>Zv R rb rc rest T r w h kT)
 have hD:=hid (fun r v w bx h hx=>Z0 R rb rc bx rest T r v w h kT hx)
 have hz:=hid (fun w h=>ZK m av w h hf.2.2);have hA:=Zl hR m.a;have hB:=Zl hR m.b;have hC:=Zl hR m.c;obtain⟨ma,mc,rfl,hM⟩:=hm.shape;obtain⟨aa,ac,hH⟩:=Zb h;subst hH;have H:=hid h;have HW:=hid hw;have HM:=hid hm;have hE:=hid he;have HF:=hid hf;have hW:=hid hw.lt;clear h hw hm he hf hR;unfold mv at hz;unfold mv;have hj:=zH (makes7 m=[m.d]) jZ;have n1:=zN m.op 1;have n2:=zN m.op 2;have n3:=zN m.op 3;have n4:=zN m.op 4;have n23:=zN m.op 23;have y24:(m.op==24)=true:=beq_iff_eq.2 kT;have g1:¬ m.op≤17:=kT
 have g2:¬ m.op≤22:=kT
 have g3:18≤m.op:=kT
 have g4:5≤m.op:=kT
 have hN:m.imm≤2147483647:=HF.out.2.1;have hO : -2147483648≤m.imm:=HF.out.1;have hn:=hid (fun w h=>WZ M (.slice ma M.length mc) (wrap32 (getR R m.a+m.imm)) w h (Z5 _).1 (Z5 _).2)
 unfold VW at hn;rw[if_pos ha,decide_eq_true ha.1,decide_eq_true ha.2]at hn;generalize M.getD (wrap32 (getR R m.a+m.imm)).toNat 0=x at *;exact zc
theorem Zcg (m:Mach) (av mv0:Value) (R M:List Int) (rb rc:Nat) (rest:List Value) (T:TypeId) (w:World) (h:Zi w av m.args) (hf:Yw m) (hw:WAt w rb R rest T) (hR:∀ x∈R,In32 x) (hl:R.length≤1000) (hm:MemIs w mv0 M)
  (ha:(∀ q,av.ownBlock=some q→q≠rb∧mv0.ownBlock≠some q)∧mv0.ownBlock≠some rb) (ho:m.op=24) (hb:¬ (0≤wrap32 (getR R m.a+m.imm)∧wrap32 (getR R m.a+m.imm)<(M.length:Int))) :
  Calls Tryz.prog 169 #[mv m av,.slice (some ⟨rb,0,none⟩) R.length rc,mv0] w (YN (some (-2)) R M rb rest T mv0 w):=by
 have hd:=hid (fun r w h=>Zv R rb rc rest T r w h kT)
 have hj:=hid (fun r v w bx h hx=>Z0 R rb rc bx rest T r v w h kT hx)
 have hi:=hid (fun w h=>ZK m av w h hf.2.2);have hA:=Zl hR m.a;have hB:=Zl hR m.b;have hC:=Zl hR m.c;obtain⟨ma,mc,rfl,hp⟩:=hm.shape;obtain⟨aa,ac,hh⟩:=Zb h;subst hh;have H:=hid h;have HW:=hid hw;have HM:=hid hm;have hn:=hid ha;have HF:=hid hf;have hF:=hid hw.lt;clear h hw hm ha hf hR;unfold mv at hi;unfold mv;have n1:=zN m.op 1;have n2:=zN m.op 2;have n3:=zN m.op 3;have n4:=zN m.op 4;have n23:=zN m.op 23;have y24:(m.op==24)=true:=beq_iff_eq.2 kT;have g1:¬ m.op≤17:=kT
 have g2:¬ m.op≤22:=kT
 have g3:18≤m.op:=kT
 have g4:5≤m.op:=kT
 have hq:m.imm≤2147483647:=HF.out.2.1;have hr : -2147483648≤m.imm:=HF.out.1;have hc:=hid (fun w h=>WZ M (.slice ma M.length mc) (wrap32 (getR R m.a+m.imm)) w h (Z5 _).1 (Z5 _).2)
 unfold VW at hc;rw[if_neg hb,show (decide (0≤wrap32 (getR R m.a+m.imm))&&decide (wrap32 (getR R m.a+m.imm)<(M.length:Int)))=false from by rw[←Bool.decide_and];exact decide_eq_false hb]at hc
 exact zh
theorem Zcd (m:Mach) (av mv0:Value) (R M:List Int) (rb rc:Nat) (rest:List Value) (T:TypeId) (w:World) (h:Zi w av m.args) (hf:Yw m) (hw:WAt w rb R rest T) (hR:∀ x∈R,In32 x) (hl:R.length≤1000) (hm:MemIs w mv0 M)
  (he:(∀ q,av.ownBlock=some q→q≠rb∧mv0.ownBlock≠some q)∧mv0.ownBlock≠some rb) (ho:m.op=25) (ha:0≤wrap32 (getR R m.a+getR R m.b)∧wrap32 (getR R m.a+getR R m.b)<(M.length:Int)) :
  Calls Tryz.prog 169 #[mv m av,.slice (some ⟨rb,0,none⟩) R.length rc,mv0] w (YN none (setR R m.d (M.getD (wrap32 (getR R m.a+getR R m.b)).toNat 0)) M rb rest T mv0 w):=by
 have hF:=hid (fun r w h=>Zv R rb rc rest T r w h kT)
 have hD:=hid (fun r v w bx h hx=>Z0 R rb rc bx rest T r v w h kT hx)
 have hz:=hid (fun w h=>ZK m av w h hf.2.2);have hA:=Zl hR m.a;have hB:=Zl hR m.b;have hC:=Zl hR m.c;obtain⟨ma,mc,rfl,hM⟩:=hm.shape;obtain⟨aa,ac,hH⟩:=Zb h;subst hH;have H:=hid h;have HW:=hid hw;have HM:=hid hm;have hE:=hid he;have HF:=hid hf;have hW:=hid hw.lt;clear h hw hm he hf hR;unfold mv at hz;unfold mv;have hj:=zH (makes7 m=[m.d]) jZ;have n1:=zN m.op 1;have n2:=zN m.op 2;have n3:=zN m.op 3;have n4:=zN m.op 4;have n23:=zN m.op 23;have n24:=zN m.op 24;have y25:(m.op==25)=true:=beq_iff_eq.2 kT;have g1:¬ m.op≤17:=kT
 have g2:¬ m.op≤22:=kT
 have g3:18≤m.op:=kT
 have g4:5≤m.op:=kT
 have hN:m.imm≤2147483647:=HF.out.2.1;have hO : -2147483648≤m.imm:=HF.out.1;have hn:=hid (fun w h=>WZ M (.slice ma M.length mc) (wrap32 (getR R m.a+getR R m.b)) w h (Z5 _).1 (Z5 _).2)
 unfold VW at hn;rw[if_pos ha,decide_eq_true ha.1,decide_eq_true ha.2]at hn;generalize M.getD (wrap32 (getR R m.a+getR R m.b)).toNat 0=x at *;exact zc
theorem Zce (m:Mach) (av mv0:Value) (R M:List Int) (rb rc:Nat) (rest:List Value) (T:TypeId) (w:World) (h:Zi w av m.args) (hf:Yw m) (hw:WAt w rb R rest T) (hR:∀ x∈R,In32 x) (hl:R.length≤1000) (hm:MemIs w mv0 M)
  (ha:(∀ q,av.ownBlock=some q→q≠rb∧mv0.ownBlock≠some q)∧mv0.ownBlock≠some rb) (ho:m.op=25) (hb:¬ (0≤wrap32 (getR R m.a+getR R m.b)∧wrap32 (getR R m.a+getR R m.b)<(M.length:Int))) :
  Calls Tryz.prog 169 #[mv m av,.slice (some ⟨rb,0,none⟩) R.length rc,mv0] w (YN (some (-2)) R M rb rest T mv0 w):=by
 have hd:=hid (fun r w h=>Zv R rb rc rest T r w h kT)
 have hj:=hid (fun r v w bx h hx=>Z0 R rb rc bx rest T r v w h kT hx)
 have hi:=hid (fun w h=>ZK m av w h hf.2.2);have hA:=Zl hR m.a;have hB:=Zl hR m.b;have hC:=Zl hR m.c;obtain⟨ma,mc,rfl,hp⟩:=hm.shape;obtain⟨aa,ac,hh⟩:=Zb h;subst hh;have H:=hid h;have HW:=hid hw;have HM:=hid hm;have hn:=hid ha;have HF:=hid hf;have hF:=hid hw.lt;clear h hw hm ha hf hR;unfold mv at hi;unfold mv;have n1:=zN m.op 1;have n2:=zN m.op 2;have n3:=zN m.op 3;have n4:=zN m.op 4;have n23:=zN m.op 23;have n24:=zN m.op 24;have y25:(m.op==25)=true:=beq_iff_eq.2 kT;have g1:¬ m.op≤17:=kT
 have g2:¬ m.op≤22:=kT
 have g3:18≤m.op:=kT
 have g4:5≤m.op:=kT
 have hq:m.imm≤2147483647:=HF.out.2.1;have hr : -2147483648≤m.imm:=HF.out.1;have hc:=hid (fun w h=>WZ M (.slice ma M.length mc) (wrap32 (getR R m.a+getR R m.b)) w h (Z5 _).1 (Z5 _).2)
 unfold VW at hc;rw[if_neg hb,show (decide (0≤wrap32 (getR R m.a+getR R m.b))&&decide (wrap32 (getR R m.a+getR R m.b)<(M.length:Int)))=false from by rw[←Bool.decide_and];exact decide_eq_false hb]at hc
 exact zh
end Go.Proofs.YtimpddecdodddaaGreat
