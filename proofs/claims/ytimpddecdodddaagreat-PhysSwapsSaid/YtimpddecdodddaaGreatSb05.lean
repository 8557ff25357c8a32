import Derived.Test.YtimpddecdodddaaGreatSb04
namespace Go.Proofs.YtimpddecdodddaaGreat
open Go.RowKit Go.Lib
set_option linter.unusedVariables false
set_option maxHeartbeats 1000000
set_option maxRecDepth 100000
theorem zd {P:Prop} (h:P:=by
 clear hb ho;obtain⟨hQ,hP⟩:=hA;obtain⟨hO,hN⟩:=hB;obtain⟨hM,hL⟩:=hC;go_enter Tryz.func169,Tryz.ntmps169
 go_wp2
 refine Zd rfl (by decide +kernel) (by decide +kernel)
  [Is (.slice (some ⟨rb,0,none⟩) R.length rc),Is (.pointer (some ⟨w.heap.size,3,none⟩)),Is (.int .i64 m.a),Is (.int .i32 (getR R m.a)),Is (.slice (some ⟨rb,0,none⟩) R.length rc),Is (.pointer (some ⟨w.heap.size,4,none⟩)),Is (.int .i64 m.b),Is (.int .i32 (getR R m.b)),Is (.slice (some ⟨rb,0,none⟩) R.length rc),Is (.pointer (some ⟨w.heap.size,5,none⟩)),Is (.int .i64 m.c),Is (.int .i32 (getR R m.c)),Is (.int .i32 (getR R m.a)),Is (.int .i32 (getR R m.b)),Is (.int .i32 (getR R m.c))]
  (by repeat (first | exact trivial | refine⟨Is.stable _,?_⟩ | refine⟨Zn.stable _ _,?_⟩ | refine⟨Zz.stable _ _,?_⟩)) ⟨?_,?_,?_,?_,?_,?_,?_,?_,?_,?_,?_,?_,?_,?_,?_,trivial⟩ ?_
 all_goals
  intro vs w1 hs hk;have hu:∀ i,w1.cell? ⟨w.heap.size,i,none⟩=_:=fun i=>hs.cell (p:=⟨w.heap.size,i,none⟩) (by simp<;>omega)
  have ht:∀ i,w1.cell? ⟨w.heap.size+1,i,none⟩=_:=fun i=>hs.cell (p:=⟨w.heap.size+1,i,none⟩) (by simp)
  have hE:=zH (w.heap.size+1<w1.heap.size) (by have:=hs.size;simp at this;omega);have HS:=hid (Since.trans (((Since.refl w).alloc _).alloc _) hs);clear hs;simp only[putAll,Act.put,Zk,Zc,Ze,Is,List.setIfInBounds_toArray,List.set_cons_zero,List.set_cons_succ,Nat.reduceAdd,List.length_cons,List.length_nil]at hk ⊢;try simp only[hk]
 iterate 3
  iterate 3
   ·go_wp2
    exact⟨_,rfl,rfl,.refl _⟩
  ·go_wp2_with fail
   refine (hz.out _ w1 (HW.out.keep HS.out)).mono ?_;rintro e w2 ⟨rfl,rfl⟩;go_wp2
   exact⟨_,rfl,rfl,.refl _⟩
 iterate 3
  ·go_wp2
   exact⟨_,rfl,rfl,.refl _⟩
 ·have hG:=hid hu;have hU:=hid ht;clear hk;generalize getR R m.a=A at *;generalize getR R m.b=B at *;generalize getR R m.c=C at *;go_wp2_with fail
  refine (ha.out _ (HM.out.keep HS.out)).mono ?_;rintro e2 w2 ⟨rfl,hr,hc⟩;have he:=fun q hq=>MemIs.lt HM.out (q:=q) hq
  have hy:∀ i,w2.cell? ⟨w.heap.size,i,none⟩=_:=fun i=>(hc.cell (p:=⟨w.heap.size,i,none⟩) (Nat.lt_of_succ_lt hE.out) (fun e=>absurd (he _ e) (by simp))).trans (hG.out i)
  have hF:=hid hr;have hg:=hid hc;have hT:=hid he;clear hr hc he hu ht;go_wp2_with fail
  refine (hv.out _ ((H.out.keep HS.out).turn hg.out (fun q hq e=>(hh.out.1 q hq).2 e))).mono ?_
  rw[hj.out];rintro e5 w5 ⟨v5,rfl,hn,hp⟩;obtain⟨ka,kc,rfl⟩:=Zb hn;have hi:=hid hp;clear hy hn hp;go_wp2
  go_loopw [189] (fun i wr=>i=.int .i64 0∧wr=w5) (fun i _=>0)
  case atStart=>exact⟨rfl,rfl⟩
  case round =>
   obtain⟨rfl,rfl⟩:=hrel;go_wp2
   go_ret2
   exact⟨rfl,((HW.out.keep HS.out).turn hg.out (fun e=>hh.out.2 e)).keep hi.out,hF.out.keep hi.out,((Turn.since HS.out).trans (hg.out.mono fun _ _ h=>.inr h)).trans (Turn.since hi.out)⟩):P:=h
theorem zf {P:Prop} (h:P:=by
 clear he ho;obtain⟨hM,hL⟩:=hA;obtain⟨hK,hJ⟩:=hB;obtain⟨hI,hH⟩:=hC;go_enter Tryz.func169,Tryz.ntmps169
 go_wp2
 refine Zd rfl (by decide +kernel) (by decide +kernel)
  [Is (.slice (some ⟨rb,0,none⟩) R.length rc),Is (.pointer (some ⟨w.heap.size,3,none⟩)),Is (.int .i64 m.a),Is (.int .i32 (getR R m.a)),Is (.slice (some ⟨rb,0,none⟩) R.length rc),Is (.pointer (some ⟨w.heap.size,4,none⟩)),Is (.int .i64 m.b),Is (.int .i32 (getR R m.b)),Is (.slice (some ⟨rb,0,none⟩) R.length rc),Is (.pointer (some ⟨w.heap.size,5,none⟩)),Is (.int .i64 m.c),Is (.int .i32 (getR R m.c)),Is (.int .i32 (getR R m.a)),Is (.int .i32 (getR R m.b)),Is (.int .i32 (getR R m.c))]
  (by repeat (first | exact trivial | refine⟨Is.stable _,?_⟩ | refine⟨Zn.stable _ _,?_⟩ | refine⟨Zz.stable _ _,?_⟩)) ⟨?_,?_,?_,?_,?_,?_,?_,?_,?_,?_,?_,?_,?_,?_,?_,trivial⟩ ?_
 all_goals
  intro vs w1 hs hk;have hi:∀ i,w1.cell? ⟨w.heap.size,i,none⟩=_:=fun i=>hs.cell (p:=⟨w.heap.size,i,none⟩) (by simp<;>omega)
  have hh:∀ i,w1.cell? ⟨w.heap.size+1,i,none⟩=_:=fun i=>hs.cell (p:=⟨w.heap.size+1,i,none⟩) (by simp)
  have ht:=zH (w.heap.size+1<w1.heap.size) (by have:=hs.size;simp at this;omega);have HS:=hid (Since.trans (((Since.refl w).alloc _).alloc _) hs);clear hs;simp only[putAll,Act.put,Zk,Zc,Ze,Is,List.setIfInBounds_toArray,List.set_cons_zero,List.set_cons_succ,Nat.reduceAdd,List.length_cons,List.length_nil]at hk ⊢;try simp only[hk]
 iterate 3
  iterate 3
   ·go_wp2
    exact⟨_,rfl,rfl,.refl _⟩
  ·go_wp2_with fail
   refine (hp.out _ w1 (HW.out.keep HS.out)).mono ?_;rintro e w2 ⟨rfl,rfl⟩;go_wp2
   exact⟨_,rfl,rfl,.refl _⟩
 iterate 3
  ·go_wp2
   exact⟨_,rfl,rfl,.refl _⟩
 ·have hy:=hid hi;have hP:=hid hh;clear hk;generalize getR R m.a=A at *;generalize getR R m.b=B at *;generalize getR R m.c=C at *;go_wp2_with fail
  refine (ha.out _ (HM.out.keep HS.out)).mono ?_;rintro e2 w2 ⟨rfl,hg,hb⟩;have hd:=fun q hq=>MemIs.lt HM.out (q:=q) hq
  have hz:∀ i,w2.cell? ⟨w.heap.size,i,none⟩=_:=fun i=>(hb.cell (p:=⟨w.heap.size,i,none⟩) (Nat.lt_of_succ_lt ht.out) (fun e=>absurd (hd _ e) (by simp))).trans (hy.out i)
  have hv:=hid hg;have hj:=hid hb;have hO:=hid hd;clear hg hb hd hi hh;go_wp2
  go_ret2
  exact⟨rfl,(HW.out.keep HS.out).turn hj.out (fun e=>hn.out.2 e),hv.out,(Turn.since HS.out).trans (hj.out.mono fun _ _ h=>.inr h)⟩):P:=h
theorem Zcb (m:Mach) (av mv0:Value) (R M:List Int) (rb rc:Nat) (rest:List Value) (T:TypeId) (w:World) (h:Zi w av m.args) (hf:Yw m) (hw:WAt w rb R rest T) (hR:∀ x∈R,In32 x) (hl:R.length≤1000) (hm:MemIs w mv0 M)
  (hd:(∀ q,av.ownBlock=some q→q≠rb∧mv0.ownBlock≠some q)∧mv0.ownBlock≠some rb) (ho:m.op=26) (hb:0≤wrap32 (getR R m.a+m.imm)∧wrap32 (getR R m.a+m.imm)<(M.length:Int)) :
  Calls Tryz.prog 169 #[mv m av,.slice (some ⟨rb,0,none⟩) R.length rc,mv0] w (YN none R (M.set (wrap32 (getR R m.a+m.imm)).toNat (getR R m.b)) rb rest T mv0 w):=by
 have hz:=hid (fun r w h=>Zv R rb rc rest T r w h kT)
 have hH:=hid (fun r v w bx h hx=>Z0 R rb rc bx rest T r v w h kT hx)
 have hv:=hid (fun w h=>ZK m av w h hf.2.2);have hA:=Zl hR m.a;have hB:=Zl hR m.b;have hC:=Zl hR m.c;obtain⟨ma,mc,rfl,hI⟩:=hm.shape;obtain⟨aa,ac,hD⟩:=Zb h;subst hD;have H:=hid h;have HW:=hid hw;have HM:=hid hm;have hh:=hid hd;have HF:=hid hf;have hS:=hid hw.lt;clear h hw hm hd hf hR;unfold mv at hv;unfold mv;have hj:=zH (makes7 m=[]) j0;have n1:=zN m.op 1;have n2:=zN m.op 2;have n3:=zN m.op 3;have n4:=zN m.op 4;have n23:=zN m.op 23;have n24:=zN m.op 24;have n25:=zN m.op 25;have y26:(m.op==26)=true:=beq_iff_eq.2 kT;have g1:¬ m.op≤17:=kT
 have g2:¬ m.op≤22:=kT
 have g3:18≤m.op:=kT
 have g4:5≤m.op:=kT
 have hJ:m.imm≤2147483647:=HF.out.2.1;have hK : -2147483648≤m.imm:=HF.out.1;have ha:=hid (fun w h=>Vf M (.slice ma M.length mc) (wrap32 (getR R m.a+m.imm)) (getR R m.b) w h (Z5 _).1 (Z5 _).2)
 unfold VB at ha;simp only[if_pos hb,decide_eq_true hb.1,decide_eq_true hb.2,Bool.and_self]at ha;generalize M.set (wrap32 (getR R m.a+m.imm)).toNat (getR R m.b)=M2 at *;exact zd
theorem Zcc (m:Mach) (av mv0:Value) (R M:List Int) (rb rc:Nat) (rest:List Value) (T:TypeId) (w:World) (h:Zi w av m.args) (hf:Yw m) (hw:WAt w rb R rest T) (hR:∀ x∈R,In32 x) (hl:R.length≤1000) (hm:MemIs w mv0 M)
  (hc:(∀ q,av.ownBlock=some q→q≠rb∧mv0.ownBlock≠some q)∧mv0.ownBlock≠some rb) (ho:m.op=26) (he:¬ (0≤wrap32 (getR R m.a+m.imm)∧wrap32 (getR R m.a+m.imm)<(M.length:Int))) :
  Calls Tryz.prog 169 #[mv m av,.slice (some ⟨rb,0,none⟩) R.length rc,mv0] w (YN (some (-2)) R M rb rest T mv0 w):=by
 have hp:=hid (fun r w h=>Zv R rb rc rest T r w h kT)
 have hD:=hid (fun r v w bx h hx=>Z0 R rb rc bx rest T r v w h kT hx)
 have hu:=hid (fun w h=>ZK m av w h hf.2.2);have hA:=Zl hR m.a;have hB:=Zl hR m.b;have hC:=Zl hR m.c;obtain⟨ma,mc,rfl,hE⟩:=hm.shape;obtain⟨aa,ac,hr⟩:=Zb h;subst hr;have H:=hid h;have HW:=hid hw;have HM:=hid hm;have hn:=hid hc;have HF:=hid hf;have hN:=hid hw.lt;clear h hw hm hc hf hR;unfold mv at hu;unfold mv;have n1:=zN m.op 1;have n2:=zN m.op 2;have n3:=zN m.op 3;have n4:=zN m.op 4;have n23:=zN m.op 23;have n24:=zN m.op 24;have n25:=zN m.op 25;have y26:(m.op==26)=true:=beq_iff_eq.2 kT;have g1:¬ m.op≤17:=kT
 have g2:¬ m.op≤22:=kT
 have g3:18≤m.op:=kT
 have g4:5≤m.op:=kT
 have hF:m.imm≤2147483647:=HF.out.2.1;have hG : -2147483648≤m.imm:=HF.out.1;have ha:=hid (fun w h=>Vf M (.slice ma M.length mc) (wrap32 (getR R m.a+m.imm)) (getR R m.b) w h (Z5 _).1 (Z5 _).2)
 unfold VB at ha;simp only[if_neg he,show (decide (0≤wrap32 (getR R m.a+m.imm))&&decide (wrap32 (getR R m.a+m.imm)<(M.length:Int)))=false from by rw[←Bool.decide_and];exact decide_eq_false he]at ha
 exact zf
theorem Zb9 (m:Mach) (av mv0:Value) (R M:List Int) (rb rc:Nat) (rest:List Value) (T:TypeId) (w:World) (h:Zi w av m.args) (hf:Yw m) (hw:WAt w rb R rest T) (hR:∀ x∈R,In32 x) (hl:R.length≤1000) (hm:MemIs w mv0 M)
  (hd:(∀ q,av.ownBlock=some q→q≠rb∧mv0.ownBlock≠some q)∧mv0.ownBlock≠some rb) (ho:m.op=27) (hb:0≤wrap32 (getR R m.a+getR R m.b)∧wrap32 (getR R m.a+getR R m.b)<(M.length:Int)) :
  Calls Tryz.prog 169 #[mv m av,.slice (some ⟨rb,0,none⟩) R.length rc,mv0] w (YN none R (M.set (wrap32 (getR R m.a+getR R m.b)).toNat (getR R m.c)) rb rest T mv0 w):=by
 have hz:=hid (fun r w h=>Zv R rb rc rest T r w h kT)
 have hH:=hid (fun r v w bx h hx=>Z0 R rb rc bx rest T r v w h kT hx)
 have hv:=hid (fun w h=>ZK m av w h hf.2.2);have hA:=Zl hR m.a;have hB:=Zl hR m.b;have hC:=Zl hR m.c;obtain⟨ma,mc,rfl,hI⟩:=hm.shape;obtain⟨aa,ac,hD⟩:=Zb h;subst hD;have H:=hid h;have HW:=hid hw;have HM:=hid hm;have hh:=hid hd;have HF:=hid hf;have hS:=hid hw.lt;clear h hw hm hd hf hR;unfold mv at hv;unfold mv;have hj:=zH (makes7 m=[]) j0;have n1:=zN m.op 1;have n2:=zN m.op 2;have n3:=zN m.op 3;have n4:=zN m.op 4;have n23:=zN m.op 23;have n24:=zN m.op 24;have n25:=zN m.op 25;have n26:=zN m.op 26;have y27:(m.op==27)=true:=beq_iff_eq.2 kT;have g1:¬ m.op≤17:=kT
 have g2:¬ m.op≤22:=kT
 have g3:18≤m.op:=kT
 have g4:5≤m.op:=kT
 have hJ:m.imm≤2147483647:=HF.out.2.1;have hK : -2147483648≤m.imm:=HF.out.1;have ha:=hid (fun w h=>Vf M (.slice ma M.length mc) (wrap32 (getR R m.a+getR R m.b)) (getR R m.c) w h (Z5 _).1 (Z5 _).2)
 unfold VB at ha;simp only[if_pos hb,decide_eq_true hb.1,decide_eq_true hb.2,Bool.and_self]at ha;generalize M.set (wrap32 (getR R m.a+getR R m.b)).toNat (getR R m.c)=M2 at *;exact zd
theorem Zca (m:Mach) (av mv0:Value) (R M:List Int) (rb rc:Nat) (rest:List Value) (T:TypeId) (w:World) (h:Zi w av m.args) (hf:Yw m) (hw:WAt w rb R rest T) (hR:∀ x∈R,In32 x) (hl:R.length≤1000) (hm:MemIs w mv0 M)
  (hc:(∀ q,av.ownBlock=some q→q≠rb∧mv0.ownBlock≠some q)∧mv0.ownBlock≠some rb) (ho:m.op=27) (he:¬ (0≤wrap32 (getR R m.a+getR R m.b)∧wrap32 (getR R m.a+getR R m.b)<(M.length:Int))) :
  Calls Tryz.prog 169 #[mv m av,.slice (some ⟨rb,0,none⟩) R.length rc,mv0] w (YN (some (-2)) R M rb rest T mv0 w):=by
 have hp:=hid (fun r w h=>Zv R rb rc rest T r w h kT)
 have hD:=hid (fun r v w bx h hx=>Z0 R rb rc bx rest T r v w h kT hx)
 have hu:=hid (fun w h=>ZK m av w h hf.2.2);have hA:=Zl hR m.a;have hB:=Zl hR m.b;have hC:=Zl hR m.c;obtain⟨ma,mc,rfl,hE⟩:=hm.shape;obtain⟨aa,ac,hr⟩:=Zb h;subst hr;have H:=hid h;have HW:=hid hw;have HM:=hid hm;have hn:=hid hc;have HF:=hid hf;have hN:=hid hw.lt;clear h hw hm hc hf hR;unfold mv at hu;unfold mv;have n1:=zN m.op 1;have n2:=zN m.op 2;have n3:=zN m.op 3;have n4:=zN m.op 4;have n23:=zN m.op 23;have n24:=zN m.op 24;have n25:=zN m.op 25;have n26:=zN m.op 26;have y27:(m.op==27)=true:=beq_iff_eq.2 kT;have g1:¬ m.op≤17:=kT
 have g2:¬ m.op≤22:=kT
 have g3:18≤m.op:=kT
 have g4:5≤m.op:=kT
 have hF:m.imm≤2147483647:=HF.out.2.1;have hG : -2147483648≤m.imm:=HF.out.1;have ha:=hid (fun w h=>Vf M (.slice ma M.length mc) (wrap32 (getR R m.a+getR R m.b)) (getR R m.c) w h (Z5 _).1 (Z5 _).2)
 unfold VB at ha;simp only[if_neg he,show (decide (0≤wrap32 (getR R m.a+getR R m.b))&&decide (wrap32 (getR R m.a+getR R m.b)<(M.length:Int)))=false from by rw[←Bool.decide_and];exact decide_eq_false he]at ha
 exact zf
theorem Zc6 (m:Mach) (av mv0:Value) (R M:List Int) (rb rc:Nat) (rest:List Value) (T:TypeId) (w:World) (h:Zi w av m.args) (hf:Yw m) (hw:WAt w rb R rest T) (hR:∀ x∈R,In32 x) (hl:R.length≤1000) (hm:MemIs w mv0 M)
  (hb:(∀ q,av.ownBlock=some q→q≠rb∧mv0.ownBlock≠some q)∧mv0.ownBlock≠some rb) (ho:m.op<1∨m.op=28∨30≤m.op) :
  Calls Tryz.prog 169 #[mv m av,.slice (some ⟨rb,0,none⟩) R.length rc,mv0] w (YN none R M rb rest T mv0 w):=by
 have hc:=hid (fun r w h=>Zv R rb rc rest T r w h kT)
 have hi:=hid (fun r v w bx h hx=>Z0 R rb rc bx rest T r v w h kT hx)
 have hh:=hid (fun w h=>ZK m av w h hf.2.2);have hA:=Zl hR m.a;have hB:=Zl hR m.b;have hC:=Zl hR m.c;obtain⟨ma,mc,rfl,hp⟩:=hm.shape;obtain⟨aa,ac,hg⟩:=Zb h;subst hg;have H:=hid h;have HW:=hid hw;have HM:=hid hm;have hj:=hid hb;have HF:=hid hf;have hD:=hid hw.lt;clear h hw hm hb hf hR;unfold mv at hh;unfold mv;have n1:=zN m.op 1;have n2:=zN m.op 2;have n3:=zN m.op 3;have n4:=zN m.op 4;have n23:=zN m.op 23;have n24:=zN m.op 24;have n25:=zN m.op 25;have n26:=zN m.op 26;have n27:=zN m.op 27;have n29:=zN m.op 29;have hn:(decide (5≤m.op)&&decide (m.op≤17))=false:=by
  rw[←Bool.decide_and];exact decide_eq_false kT
 have ha:m.op<5∨22<m.op:=kT
 clear ho;obtain⟨hy,hv⟩:=hA;obtain⟨hu,ht⟩:=hB;obtain⟨hr,hq⟩:=hC;go_enter Tryz.func169,Tryz.ntmps169
 go_wp2
 refine Zd rfl kK kK
  [Is (.slice (some ⟨rb,0,none⟩) R.length rc),Is (.pointer (some ⟨w.heap.size,3,none⟩)),Is (.int .i64 m.a),Is (.int .i32 (getR R m.a)),Is (.slice (some ⟨rb,0,none⟩) R.length rc),Is (.pointer (some ⟨w.heap.size,4,none⟩)),Is (.int .i64 m.b),Is (.int .i32 (getR R m.b)),Is (.slice (some ⟨rb,0,none⟩) R.length rc),Is (.pointer (some ⟨w.heap.size,5,none⟩)),Is (.int .i64 m.c),Is (.int .i32 (getR R m.c)),Is (.int .i32 (getR R m.a)),Is (.int .i32 (getR R m.b)),Is (.int .i32 (getR R m.c))]
  jS ⟨?_,?_,?_,?_,?_,?_,?_,?_,?_,?_,?_,?_,?_,?_,?_,trivial⟩ ?_
 all_goals
  intro vs w1 hs hk;have he:∀ i,w1.cell? ⟨w.heap.size,i,none⟩=_:=fun i=>hs.cell (p:=⟨w.heap.size,i,none⟩) kM
  have hd:∀ i,w1.cell? ⟨w.heap.size+1,i,none⟩=_:=fun i=>hs.cell (p:=⟨w.heap.size+1,i,none⟩) kU
  have hz:=zH (w.heap.size+1<w1.heap.size) kh;have HS:=hid (Since.trans (((Since.refl w).alloc _).alloc _) hs);clear hs;simp only[putAll,Act.put,Zk,Zc,Ze,Is,List.setIfInBounds_toArray,List.set_cons_zero,List.set_cons_succ,Nat.reduceAdd,List.length_cons,List.length_nil]at hk ⊢;try simp only[hk]
 iterate 3
  iterate 3
   ·exact jK
  ·go_wp2_with fail
   refine (hc.out _ w1 (HW.out.keep HS.out)).mono ?_;exact jj
 iterate 3
  ·exact jK
 ·have hF:=hid he;have hE:=hid hd;clear hk;generalize getR R m.a=A at *;generalize getR R m.b=B at *;generalize getR R m.c=C at *;rcases ha with ha|ha;all_goals
   go_wp2
   go_ret2
   exact⟨rfl,HW.out.keep HS.out,HM.out.keep HS.out,Turn.since HS.out⟩
end Go.Proofs.YtimpddecdodddaaGreat
