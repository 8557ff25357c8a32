import Derived.Test.YtkpbmbhejpmboaaGreatPkS17
namespace Go.Proofs.YtkpbmbhejpmboaaGreat
open Go.RowKit Go.Lib
set_option linter.unusedVariables false
set_option maxHeartbeats 1000000
set_option maxRecDepth 100000
theorem OutIs.since {w w':World} {base:Nat} {v : Value} {o : WS} (h:OutIs w base v o) (s:Since w w'):OutIs w' base v o:=by
 obtain⟨mv,cv,h1,h2,h3,h4⟩:=h;exact⟨mv,cv,h1,h2.keep s,h3.turn (S:=fun _=>False) (Turn.since s) fun _ _=>id,h4⟩
def W5 (w:World) (v:Value) (l:List Int):Prop:=∃ a c,v=.slice a l.length c∧(l≠[]→∃ b off,a=some ⟨b,off,none⟩∧b<w.heap.size∧∀ (j:Nat) (x:Int),l[j]? = some x→w.cell? ⟨b,off+j,none⟩=some (.int .i32 x))
theorem W5.keep {w w':World} {v : Value} {l : List Int} (h:W5 w v l) (s:Since w w'):W5 w' v l:=by
 obtain⟨a,c,h1,h2⟩:=h;refine⟨a,c,h1,fun ha=>?_⟩;obtain⟨b,off,h3,h4,h5⟩:=h2 ha;exact⟨b,off,h3,Nat.lt_of_lt_of_le h4 s.size,fun j x hj=>(s.cell (p:=⟨b,off+j,none⟩) h4).trans (h5 j x hj)⟩
theorem Vu {w : World} {v : Value} {l : List Int} (h:Zt .i32 w v l):W5 w v l:=by
 obtain⟨a,c,rfl⟩:=Zb h;exact⟨a,c,rfl,(Zx h).2⟩
theorem KK {w : World} {v : Value} {l : List Int} (h:MemIs w v l):W5 w v l:=by
 obtain⟨a,c,rfl,hl⟩:=h.shape;refine⟨a,c,rfl,fun ha=>?_⟩;obtain⟨b,r,T,rfl,hw⟩:=h.at (List.length_pos_iff.2 ha);refine⟨b,0,rfl,hw.lt,fun j x hj=>?_⟩;rw[Nat.zero_add,hw.cell (List.getElem?_eq_some_iff.1 hj).1,List.getD_eq_getElem?_getD,hj];rfl
theorem W8 (va vb:Value) (l:List Int) (w:World) (ha:W5 w va l) (hb:W5 w vb l) (hl:l.length≤9223372036854775807):Calls Tryz.prog 18 #[va,vb] w (Y9 true w):=by
 obtain⟨aa,ac,rfl,ha⟩:=ha;obtain⟨ba,bc,rfl,hb⟩:=hb;have HA:=hid ha;clear ha;have HB:=hid hb;clear hb;generalize hn:l.length=n at *;have HN:=hid hn;clear hn;go_enter Tryz.func18,Tryz.ntmps18
 go_wp2
 go_loopw [5] (fun i wr=>∃ k:Nat,k≤n∧i=.int .i64 k∧Since w wr) (fun i _=>n-(intOf i).toNat)
 case atStart=>exact⟨0,Nat.zero_le _,rfl,.refl _⟩
 case round =>
  obtain⟨k,hk,rfl,hs⟩:=hrel;have HS:=hid hs;by_cases hh:k<n
  ·have hf:l≠[]:=by intro e;have:=HN.out;rw[e]at this;simp at this;omega
   obtain⟨B,off,rfl,hB,hd⟩:=HA.out hf;obtain⟨B2,off2,rfl,he,hc⟩:=HB.out hf;obtain⟨x,hx⟩:∃ x,l[k]? = some x:=⟨_,List.getElem?_eq_getElem (by have:=HN.out;omega)⟩
   have c1:=(hs.cell (p:=⟨B,off+k,none⟩) hB).trans (hd k x hx);have c2:=(hs.cell (p:=⟨B2,off2+k,none⟩) he).trans (hc k x hx);have l1:=Nat.lt_of_lt_of_le hB hs.size;have l2:=Nat.lt_of_lt_of_le he hs.size;have hg:(x != x)=false:=by simp
   clear hd hc hs hB he hx;go_wp2_with fail
   go_quiet (fail)
   go_wp2
   go_roundw
   case rel=>exact⟨k+1,by omega,by go_num,HS.out.trans (Since.drewN (Since.refl _) _)⟩
   case measure=>simp[intOf];omega
  ·obtain rfl:k=n:=by omega
   go_wp2
   go_ret
   exact⟨rfl,HS.out⟩
theorem OutIs.shapeV {w : World} {base:Nat} {v : Value} {o : WS} (h:OutIs w base v o):∃ a c g n d,v=.agg #[.int .i64 o.e,.int .i32 o.v,.slice a o.mem.length c,.slice g n d,.int .i64 o.steps]:=by
 obtain⟨mv,cv,h1,h2,⟨evs,h3,_,_⟩,_⟩:=h;obtain⟨a,c,rfl,_⟩:=h2.shape;obtain⟨g,d,rfl⟩:=Zf h3;exact⟨a,c,g,_,d,h1⟩
theorem ZbK (o:WS) (va vb:Value) (b1 b2:Nat) (w:World) (ha:OutIs w b1 va o) (hb:OutIs w b2 vb o):Calls Tryz.prog 45 #[va,vb] w (Y9 true w):=by
 obtain⟨mva,cva,rfl,ma,⟨ea,oa,maa,xa⟩,_⟩:=ha;obtain⟨mvb,cvb,rfl,mb,⟨eb,ob,mbb,xb⟩,_⟩:=hb;obtain⟨a1,a3,rfl,hG⟩:=ma.shape;obtain⟨a4,a6,rfl,_⟩:=mb.shape;obtain⟨c1,c3,rfl⟩:=OwnRow.shape oa;obtain⟨c4,c6,rfl⟩:=OwnRow.shape ob;have hp:ea.length=o.calls.length:=by rw[←maa,List.length_map]
 have hu:eb.length=o.calls.length:=by rw[←mbb,List.length_map]
 have hw:=fun w1 (h:Since w w1)=>W8 (.slice a1 o.mem.length a3) (.slice a4 o.mem.length a6) o.mem w1 ((KK ma).keep h) ((KK mb).keep h) (by omega)
 have hH:o.calls.length≤9223372036854775807:=by
  rcases OwnRow.cells Xt oa with ⟨_,h0⟩|⟨_,cap,_,h1,h2,_⟩
  ·rw[←hp,h0];decide
  ·unfold maxLen at h2;omega
 have hv:∀ k,k<o.calls.length→∃ g1 g2 x y1 y2,c1=some ⟨g1,0,none⟩∧c4=some ⟨g2,0,none⟩∧g1<w.heap.size∧g2<w.heap.size∧(w.cell? ⟨g1,k*2,none⟩=some (.int .i32 x)∧w.cell? ⟨g1,k*2+1,none⟩=some y1)∧(w.cell? ⟨g2,k*2,none⟩=some (.int .i32 x)∧w.cell? ⟨g2,k*2+1,none⟩=some y2)∧(∃ l:List Int,(∃ p q,y1=.slice p l.length q)∧(∃ p q,y2=.slice p l.length q)∧∀ w1,Since w w1→Calls Tryz.prog 18 #[y1,y2] w1 (Y9 true w1)):=by
  intro k hk;have h1:ea[k]? = some ea[k]:=List.getElem?_eq_getElem (by omega);have h2:eb[k]? = some eb[k]:=List.getElem?_eq_getElem (by omega);generalize ea[k]=x1 at h1;generalize eb[k]=x2 at h2;have e:(x1.callee,x1.args)=(x2.callee,x2.args):=by
   have:=congrArg (fun l=>l[k]?) (maa.trans mbb.symm);simp only[List.getElem?_map,h1,h2,Option.map_some,Option.some.injEq]at this;exact this
  have ee:=Prod.mk.inj e;have ho:=xa x1 (List.mem_of_getElem? h1);have hq:=xb x2 (List.mem_of_getElem? h2);have hz:x1.args.length≤9223372036854775807:=by have:=(ZC ho).len;unfold maxLen at this;omega
  rcases OwnRow.cells Xt oa with ⟨_,h0⟩|⟨g1,p1,v1,_,_,_,l1,r1⟩
  ·rw[h0]at h1;cases h1
  rcases OwnRow.cells Xt ob with ⟨_,h0⟩|⟨g2,p2,v2,_,_,_,l2,r2⟩
  ·rw[h0]at h2;cases h2
  cases v1
  cases v2
  have q1:=r1 k 0 x1 h1 (by decide);have q2:=r1 k 1 x1 h1 (by decide);have q3:=r2 k 0 x2 h2 (by decide);have q4:=r2 k 1 x2 h2 (by decide);obtain⟨p3,p4,s1⟩:=Zf ho;obtain⟨p5,p6,s2⟩:=Zf hq;refine⟨g1,g2,x1.callee,x1.argv,x2.argv,rfl,rfl,l1,l2,⟨q1,q2⟩,⟨by rw[ee.1];exact q3,q4⟩,x1.args,⟨_,_,s1⟩,⟨_,_,by rw[ee.2];exact s2⟩,fun w1 hs=>W8 _ _ x1.args w1 (Vu ((ZC ho).keep hs)) (Vu (by rw[ee.2];exact (ZC hq).keep hs)) hz⟩
 rw[hp,hu];generalize hn:o.calls.length=n at *;generalize hm:o.mem.length=m at *;generalize o.e=oe at *;generalize o.v=ov at *;generalize o.steps=os at *;have HW:=hid hw;have hE:=hid hv;clear hw hv hp hu hn hm ma mb oa ob maa mbb xa xb;go_enter Tryz.func45,Tryz.ntmps45
 go_wp2_with fail
 refine (HW.out _ (((Since.refl _).alloc _).alloc _)).mono ?_;rintro e w1 ⟨rfl,hi⟩;have hj:=(HeapIs.new w #[.int .i64 oe,.int .i32 ov,.slice a1 m a3,.slice c1 n c3,.int .i64 os] 44).keep (((Since.refl _).alloc _).trans hi);have hh:=(HeapIs.new (w.alloc (.cells #[.int .i64 oe,.int .i32 ov,.slice a1 m a3,.slice c1 n c3,.int .i64 os] 44)) #[.int .i64 oe,.int .i32 ov,.slice a4 m a6,.slice c4 n c6,.int .i64 os] 44).keep hi;rw[show (w.alloc (.cells #[.int .i64 oe,.int .i32 ov,.slice a1 m a3,.slice c1 n c3,.int .i64 os] 44)).heap.size=w.heap.size+1 from by simp]at hh;have ht:=(((Since.refl w).alloc _).alloc _).trans hi;have hg:=hid hj;have hf:=hid hh;have he:=hid ht;have k1:=hj.cell 3;have k2:=hh.cell 3;have k3:=hj.lt;have k4:=hh.lt;clear hj hh ht hi;go_wp2_with fail
 go_loopw [5] (fun i wr=>∃ k:Nat,k≤n∧i=.int .i64 k∧Since w1 wr) (fun i _=>n-(intOf i).toNat)
 case atStart=>exact⟨0,Nat.zero_le _,rfl,.refl _⟩
 case round =>
  obtain⟨k,hk,rfl,hs⟩:=hrel;have r1:wr.cell? ⟨w.heap.size,3,none⟩=some (.slice c1 n c3):=(hg.out.keep hs).cell 3;have r2:wr.cell? ⟨w.heap.size+1,3,none⟩=some (.slice c4 n c6):=(hf.out.keep hs).cell 3;have r3:=(hg.out.keep hs).lt;have r4:=(hf.out.keep hs).lt;have HS:=hid hs;clear hs;by_cases hB:k<n
  ·obtain⟨g1,g2,x,y1,y2,rfl,rfl,l1,l2,q1,q2,ll,⟨p3,p4,rfl⟩,⟨p5,p6,rfl⟩,hr⟩:=hE.out k hB;generalize ll.length=ln at *;have hy:=hid q1;have hx:=hid q2;have hC:=hid hr;clear q1 q2 hr;go_wp2_with fail
   try rw[show decide ((k:Int)<(n:Int))=true from decide_eq_true (by omega)]
   refine Zd rfl (by decide +kernel) (by decide +kernel)
    [Is (.pointer (some ⟨w.heap.size,3,none⟩)),Is (.slice (some ⟨g1,0,none⟩) n c3),Is (.int .i64 k),Is (.pointer (some ⟨g1,k*2,none⟩)),Is (.pointer (some ⟨g1,k*2,none⟩)),Is (.int .i32 x),Is (.pointer (some ⟨w.heap.size+1,3,none⟩)),Is (.slice (some ⟨g2,0,none⟩) n c6),Is (.int .i64 k),Is (.pointer (some ⟨g2,k*2,none⟩)),Is (.pointer (some ⟨g2,k*2,none⟩)),Is (.int .i32 x),Is (.bool false),Is (.bool false),Is (.pointer (some ⟨w.heap.size,3,none⟩)),Is (.slice (some ⟨g1,0,none⟩) n c3),Is (.int .i64 k),Is (.pointer (some ⟨g1,k*2,none⟩)),Is (.pointer (some ⟨g1,k*2+1,none⟩)),Is (.slice p3 ln p4),Is (.pointer (some ⟨w.heap.size+1,3,none⟩)),Is (.slice (some ⟨g2,0,none⟩) n c6),Is (.int .i64 k),Is (.pointer (some ⟨g2,k*2,none⟩)),Is (.pointer (some ⟨g2,k*2+1,none⟩)),Is (.slice p5 ln p6),Is (.bool true),Is (.bool false),Is (.bool false)]
    (by repeat (first | exact trivial | refine⟨Is.stable _,?_⟩ | refine⟨Zm.stable _ _,?_⟩ | refine⟨Zy.stable _ _,?_⟩)) ⟨?_,?_,?_,?_,?_,?_,?_,?_,?_,?_,?_,?_,?_,?_,?_,?_,?_,?_,?_,?_,?_,?_,?_,?_,?_,?_,?_,?_,?_,trivial⟩ ?_
   all_goals
    intro vs w3 hs hk;simp only[putAll,Act.put,Zj,Zc,Ze,Is,List.setIfInBounds_toArray,List.set_cons_zero,List.set_cons_succ,Nat.reduceAdd,List.length_cons,List.length_nil]at hk ⊢;try simp only[hk]
   ·go_wp2
    exact⟨_,rfl,rfl,.refl _⟩
   ·have hc:=(hg.out.keep (HS.out.trans hs)).cell 3;have hl:=(hg.out.keep (HS.out.trans hs)).lt;go_wp2
    exact⟨_,rfl,rfl,.refl _⟩
   ·go_wp2
    exact⟨_,rfl,rfl,.refl _⟩
   iterate 2
    ·go_wp2
     exact⟨_,rfl,(by show Value.pointer _=_;simp[go_sem]),.refl _⟩
   ·have hd:=he.out.trans (HS.out.trans hs);have hc:w3.cell? ⟨g1,k*2,none⟩=some (.int .i32 x):=(hd.cell (p:=⟨g1,k*2,none⟩) l1).trans hy.out.1;have hl:g1<w3.heap.size:=Nat.lt_of_lt_of_le l1 hd.size;clear hd;go_wp2
    exact⟨_,rfl,rfl,.refl _⟩
   ·go_wp2
    exact⟨_,rfl,rfl,.refl _⟩
   ·have hc:=(hf.out.keep (HS.out.trans hs)).cell 3;have hl:=(hf.out.keep (HS.out.trans hs)).lt;go_wp2
    exact⟨_,rfl,rfl,.refl _⟩
   ·go_wp2
    exact⟨_,rfl,rfl,.refl _⟩
   iterate 2
    ·go_wp2
     exact⟨_,rfl,(by show Value.pointer _=_;simp[go_sem]),.refl _⟩
   ·have hd:=he.out.trans (HS.out.trans hs);have hc:w3.cell? ⟨g2,k*2,none⟩=some (.int .i32 x):=(hd.cell (p:=⟨g2,k*2,none⟩) l2).trans hx.out.1;have hl:g2<w3.heap.size:=Nat.lt_of_lt_of_le l2 hd.size;clear hd;go_wp2
    exact⟨_,rfl,rfl,.refl _⟩
   ·have hF:(x != x)=false:=by simp
    go_wp2
    exact⟨_,rfl,rfl,.refl _⟩
   iterate 2
    ·go_wp2
     exact⟨_,rfl,rfl,.refl _⟩
   ·have hc:=(hg.out.keep (HS.out.trans hs)).cell 3;have hl:=(hg.out.keep (HS.out.trans hs)).lt;go_wp2
    exact⟨_,rfl,rfl,.refl _⟩
   ·go_wp2
    exact⟨_,rfl,rfl,.refl _⟩
   iterate 2
    ·go_wp2
     exact⟨_,rfl,(by show Value.pointer _=_;simp[go_sem]),.refl _⟩
   ·have hd:=he.out.trans (HS.out.trans hs);have hc:w3.cell? ⟨g1,k*2+1,none⟩=some (.slice p3 ln p4):=(hd.cell (p:=⟨g1,k*2+1,none⟩) l1).trans hy.out.2;have hl:g1<w3.heap.size:=Nat.lt_of_lt_of_le l1 hd.size;clear hd;go_wp2
    exact⟨_,rfl,rfl,.refl _⟩
   ·go_wp2
    exact⟨_,rfl,rfl,.refl _⟩
   ·have hc:=(hf.out.keep (HS.out.trans hs)).cell 3;have hl:=(hf.out.keep (HS.out.trans hs)).lt;go_wp2
    exact⟨_,rfl,rfl,.refl _⟩
   ·go_wp2
    exact⟨_,rfl,rfl,.refl _⟩
   iterate 2
    ·go_wp2
     exact⟨_,rfl,(by show Value.pointer _=_;simp[go_sem]),.refl _⟩
   ·have hd:=he.out.trans (HS.out.trans hs);have hc:w3.cell? ⟨g2,k*2+1,none⟩=some (.slice p5 ln p6):=(hd.cell (p:=⟨g2,k*2+1,none⟩) l2).trans hx.out.2;have hl:g2<w3.heap.size:=Nat.lt_of_lt_of_le l2 hd.size;clear hd;go_wp2
    exact⟨_,rfl,rfl,.refl _⟩
   ·go_wp2_with fail
    refine (hC.out _ (he.out.trans (HS.out.trans hs))).mono ?_;rintro e wN ⟨rfl,hA⟩;go_wp2
    exact⟨_,rfl,rfl,hA⟩
   iterate 2
    ·go_wp2
     exact⟨_,rfl,rfl,.refl _⟩
   ·have hD:=hid hs;clear hs hk;go_wp2
    go_roundw
    case rel=>exact⟨k+1,by omega,by go_num,HS.out.trans hD.out⟩
    case measure=>simp[intOf];omega
  ·obtain rfl:n=k:=by omega
   go_wp2
   go_ret
   exact⟨rfl,he.out.trans HS.out⟩
theorem ZbB (o:WS) (va vb:Value) (b1 b2:Nat) (w:World) (ha:OutIs w b1 va o) (hb:OutIs w b2 vb o):Calls Tryz.prog 15 #[va,vb] w (Y9 true w):=by
 have hf:=fun w1 (h:Since w w1)=>ZbK o va vb b1 b2 w1 (ha.since h) (hb.since h)
 obtain⟨mva,cva,rfl,ma,⟨ea,oa,maa,xa⟩,_⟩:=ha;obtain⟨mvb,cvb,rfl,mb,⟨eb,ob,mbb,xb⟩,_⟩:=hb;obtain⟨a1,a3,rfl,_⟩:=ma.shape;obtain⟨a4,a6,rfl,_⟩:=mb.shape;obtain⟨c1,c3,rfl⟩:=OwnRow.shape oa;obtain⟨c4,c6,rfl⟩:=OwnRow.shape ob;generalize o.e=oe at *;generalize o.v=ov at *;generalize o.steps=os at *;have hh:=hid hf;clear hf ma mb oa ob maa mbb xa xb;go_enter Tryz.func15,Tryz.ntmps15
 go_wp2_with fail
 refine (hh.out _ (((Since.refl _).alloc _).alloc _)).mono ?_;rintro e w1 ⟨rfl,hc⟩;have he:=(HeapIs.new w #[.int .i64 oe,.int .i32 ov,.slice a1 o.mem.length a3,.slice c1 ea.length c3,.int .i64 os] 44).keep (((Since.refl _).alloc _).trans hc);have hd:=(HeapIs.new (w.alloc (.cells #[.int .i64 oe,.int .i32 ov,.slice a1 o.mem.length a3,.slice c1 ea.length c3,.int .i64 os] 44)) #[.int .i64 oe,.int .i32 ov,.slice a4 o.mem.length a6,.slice c4 eb.length c6,.int .i64 os] 44).keep hc;rw[show (w.alloc (.cells #[.int .i64 oe,.int .i32 ov,.slice a1 o.mem.length a3,.slice c1 ea.length c3,.int .i64 os] 44)).heap.size=w.heap.size+1 from by simp]at hd;have hg:=(((Since.refl w).alloc _).alloc _).trans hc;have k1:=he.cell 4;have k2:=hd.cell 4;have k3:=he.lt;have k4:=hd.lt;have hi:=hid hg;clear he hd hg hc;go_wp2
 go_ret
 exact⟨rfl,hi.out⟩
end Go.Proofs.YtkpbmbhejpmboaaGreat
