import Derived.Test.YtimpddecdodddaaGreatSb41
namespace Go.Proofs.YtimpddecdodddaaGreat
open Go.RowKit Go.Lib
set_option linter.unusedVariables false
set_option maxHeartbeats 4000000
set_option maxRecDepth 1000000
theorem jx {P:Prop} (h:P:=by
 clear hk;go_wp2
 exact⟨_,rfl,rfl,.refl _⟩):P:=h
theorem ZdB (wY:World) (mq xq rq pq yq:Nat) (params S:Int) (bs:List ZC) (BB boff n bc:Nat) (k:ZC) (OB ooff oc:Nat) (ow:List Int) (b:Nat) (v0:Value) (xs0:List PlV) (a0:Act) (w1:World) (Q0:Exit→Act→World→Prop) (hN:FrV [(2,.pointer (some ⟨mq,0,none⟩)),(4,.pointer (some ⟨rq,0,none⟩)),(6,.pointer (some ⟨pq,0,none⟩)),(7,.slice (some ⟨OB,ooff,none⟩) n oc),(10,.int .i64 b),(11,.pointer (some ⟨xq,0,none⟩)),(12,.pointer (some ⟨yq,0,none⟩)),(14,.int .i64 (0:Nat))] a0)
  (hd:NvD mq xq params bs BB boff n bc k OB ooff oc ow wY) (hg:NvG params S bs n ow) (hM:bs[b]? = some k) (hb:NvY S wY 4 yq v0 xs0 w1)
  (hQ:∀ a1 w2 v2 xs2,FrV [(2,.pointer (some ⟨mq,0,none⟩)),(4,.pointer (some ⟨rq,0,none⟩)),(6,.pointer (some ⟨pq,0,none⟩)),(7,.slice (some ⟨OB,ooff,none⟩) n oc),(10,.int .i64 b),(11,.pointer (some ⟨xq,0,none⟩)),(12,.pointer (some ⟨yq,0,none⟩))] a1→NvY S wY 10 yq v2 xs2 w2→Q0 .normal a1 w2):Code.wp Tryz.prog (VCode [1,1,1,1,1,1,1,0,1,0,0,1,0,0,1,1,1,0,1]) Q0 a0 w1:=by
 obtain⟨u,hh,hu⟩:=ZH hN;obtain⟨g1,g2,s2,s4,s6,s7,s10,s11,s12,s14,g3⟩:=hN;have e2:=hu 2 _ s2;have e4:=hu 4 _ s4;have e6:=hu 6 _ s6;have e7:=hu 7 _ s7;have e10:=hu 10 _ s10;have e11:=hu 11 _ s11;have e12:=hu 12 _ s12;have e14:=hu 14 _ s14;rw[e2,e4,e6,e7,e10,e11,e12,e14]at hh;subst hh;clear hu g1 g2 g3 e2 s2 e4 s4 e6 s6 e7 s7 e10 s10 e11 s11 e12 s12 e14 s14
 conv=>arg 2;whnf
 have HQ:=hid hQ;have HD:=hid hd;have HG:=hid hg;have hB:=hid hM;clear hQ hd hg hM;have hm:=HG.out.each k (List.mem_of_getElem? hB.out);obtain⟨o,hH,h1,hI⟩:=HG.out.own b k hB.out;have Hc:=hid hH;have Hl:b<n:=by have h9:=(List.getElem?_eq_some_iff.1 hB.out).1;rw[HG.out.len]at h9;exact h9
 have Hk:=HG.out.n9;have h8:=hid hm.1.phis;have Hj:=hid hm.2.1.dst;have hX:=hm.1.few;obtain⟨pa,pc,hr,_⟩:=RowIn.shape (show RowIn fpcells 2 YD wY k.phv k.phis from HD.out.xin.1);obtain⟨pl,hv⟩:∃ z,k.phis.length=z:=⟨_,rfl⟩
 rw[hv]at hr hX hI;have h7:=hid hv;have hA:=hid hr;have Hp:=HG.out.Sle;clear hH hm hr hv;go_wp2_with fail
 refine ZO (fun t ac wr=>∃ (i:Nat) (v:Value) (xs:List PlV),t=pl-i∧i≤pl∧FrV [(2,.pointer (some ⟨mq,0,none⟩)),(4,.pointer (some ⟨rq,0,none⟩)),(6,.pointer (some ⟨pq,0,none⟩)),(7,.slice (some ⟨OB,ooff,none⟩) n oc),(10,.int .i64 b),(11,.pointer (some ⟨xq,0,none⟩)),(12,.pointer (some ⟨yq,0,none⟩)),(14,.int .i64 i)] ac∧NvY S wY (4+2*i) yq v xs wr) pl ⟨0,_,_,rfl,Nat.zero_le _,(ZI rfl rfl (Za rfl (Za rfl (Za rfl (Za rfl (Za rfl (Za rfl (Za rfl (Za rfl (Zh _)))))))))),hb⟩ ?_
 ·clear hb;intro t a1 wr K hJ hK;have Hh:=hid hK;clear hK;obtain⟨i,v,xs,rfl,hi,hf,hb⟩:=hJ;obtain⟨u,hh,hu⟩:=ZH hf;obtain⟨g1,g2,s2,s4,s6,s7,s10,s11,s12,s14,g3⟩:=hf;have e2:=hu 2 _ s2;have e4:=hu 4 _ s4;have e6:=hu 6 _ s6;have e7:=hu 7 _ s7;have e10:=hu 10 _ s10;have e11:=hu 11 _ s11;have e12:=hu 12 _ s12;have e14:=hu 14 _ s14;rw[e2,e4,e6,e7,e10,e11,e12,e14]at hh;subst hh;clear hu g1 g2 g3 e2 s2 e4 s4 e6 s6 e7 s7 e10 s10 e11 s11 e12 s12 e14 s14;have ho:=hid hb;have he:=hid (HD.out.keep hb.old);have hF:=he.out.xbox.cell 0;rw[show (#[k.phv,k.insv,.int .i64 k.fin.op,.int .i64 k.fin.a,.int .i64 k.fin.b,k.fin.tov,.int .i32 k.fin.imm]:Array Value)[0]? = some k.phv from rfl,hA.out]at hF
  have h0:=he.out.xbox.lt;clear hb;by_cases h2:i<pl
  ·obtain⟨PB,poff,y,rfl,hz,hy,hT,hW⟩:=RowIn.at (show RowIn fpcells 2 YD wr (.slice pa pl pc) k.phis from by rw[←hA.out];exact he.out.xin.1) (by rw[h7.out];exact h2)
   obtain⟨dst,ins,inv⟩:=y;have hp:=List.mem_of_getElem? hy;have hP:=(h8.out _ hp).1;have hO:=Hj.out _ hp;dsimp only at hP hO;have Hb:=hid (fun (w5:World) (hs:Since wr w5)=>show w5.cell? ⟨OB,ooff+b,none⟩=some (.int .i64 o)∧OB<w5.heap.size from (he.out.keep hs).ocell Hc.out)
   have h5:=hid (fun (w5:World) (hs:Since wr w5)=>show w5.cell? ⟨xq,0,none⟩=some (.slice (some ⟨PB,poff,none⟩) pl pc)∧xq<w5.heap.size from by
    refine⟨?_,(he.out.keep hs).xbox.lt⟩;rw[←hA.out];exact (he.out.keep hs).xbox.cell 0)
   have Ha:=hid (fun (w5:World) (hs:Since wr w5)=>show w5.cell? ⟨PB,poff+i*2,none⟩=some (.int .i64 dst)∧PB<w5.heap.size from⟨by rw[hs.cell (p:=⟨PB,poff+i*2,none⟩) hz];exact hT 0 kS,Nat.lt_of_lt_of_le hz hs.size⟩)
   have hV:=zH (0≤o+(i:Int)∧o+(i:Int)<100000) kT;have Hg:=zH (0≤o+(i:Int)∧o+(i:Int)<S) kT;have Hf:=zH (0≤dst∧dst<100000) kT;have hZ:=zH (0≤dst∧dst<S) kT;have Hi:=zH (4+2*i≤100000) kT;clear hy hp hP hO hT hW h1 hI;go_upto_region 23 with fail
   clear hF h0 hz;refine Zg 17 rfl kK kK kK kS
    [Is (.pointer (some ⟨yq,0,none⟩)),Is v,Is (.slice (some ⟨OB,ooff,none⟩) n oc),Is (.int .i64 b),Is (.pointer (some ⟨OB,ooff+b,none⟩)),Is (.int .i64 o),Is (.int .i64 i),Is (.int .i64 (o+i)),Is (.agg #[.int .i64 30,.int .i64 0,.int .i64 0,.int .i64 0,.int .i64 0,.int .i64 0,.int .i32 (o+i),.slice none 0 0,.int .i64 (-1)]),Is (.pointer (some ⟨xq,0,none⟩)),Is (.slice (some ⟨PB,poff,none⟩) pl pc),Is (.int .i64 i),Is (.pointer (some ⟨PB,poff+i*2,none⟩)),Is (.pointer (some ⟨PB,poff+i*2,none⟩)),Is (.int .i64 dst),Is (.agg #[.int .i64 31,.int .i64 0,.int .i64 0,.int .i64 0,.int .i64 0,.int .i64 0,.int .i32 dst,.slice none 0 0,.int .i64 (-1)]),GoodRow wY.heap.size S 2]
    jU ⟨?_,?_,?_,?_,?_,?_,?_,?_,?_,?_,?_,?_,?_,?_,?_,?_,?_,trivial⟩ ?_
   rotate_right
   ·intro vs w5 hs hk;simp only[List.take,List.drop,putAll,Act.put,Zc,Ze,Is,List.setIfInBounds_toArray,List.set_cons_zero,List.set_cons_succ,Nat.reduceAdd]at hk ⊢;try simp only[hk]
    obtain⟨ys,hD,hC,hE⟩:GoodRow wY.heap.size S 2 (vs 16) w5:=by exact hk.2.2.2.2.2.2.2.2.2.2.2.2.2.2.2.2.1
    generalize vs 16=xv at *;have ha:=hid (ho.out.keep hs);have h4:=hid hD;have h3:=hid hC;have hU:=hid hE;have He:=zH (xs.length+ys.length≤1000000) (by have:=ho.out.few;have:=Hi.out;omega);clear hk hs hD hC hE;go_wp2_with (refine Z8 (base:=wY.heap.size) plcells 9 ZE kS rfl _ _ 30 rfl 38 (.agg #[.int .i64 0,.int .i64 0,.int .i64 0,.int .i64 0,.int .i64 0,.int .i64 0,.int .i32 0,.slice none 0 0,.int .i64 0]) 88 Tryz.underlying30 kO rfl kS v xv xs ys rfl rfl ha.out.row (XG ZE kS h3.out) (Wt hU.out) He.out ha.out.old.size ?_;intro v' w6 hj ht hw;obtain⟨va2,vc2,hG⟩:=Zf (show w6.ownsRow _ _ _ _ _ _ from hj);obtain⟨l2,hL⟩:∃ z,(xs++ys).length=z:=⟨_,rfl⟩;rw[hL]at hG;subst hG;have hY:=hid hj;have h6:=hid ht;have Hq:=hid hw;have hn:=ha.out.box.turn ht (Zm ha.out.row ha.out.box kS);have Hm:=hn.lt;have Hn:=hn.frozen;have Ho:=hn.cell 0;clear hj ht hw hn hL)
    exact Hh.out (pl-(i+1)) _ _ kT ⟨i+1,_,_,rfl,kT,(ZI rfl rfl (Za rfl (Za rfl (Za rfl (Za rfl (Za rfl (Za rfl (Za rfl (Za rfl (Zh _)))))))))),ha.out.put hY.out h6.out hU.out (by have:=ha.out.few;have:=h4.out;omega)⟩
   all_goals
    intro vs w5 hs hk _;simp only[List.take,putAll,Act.put,Zk,Ze,Is,List.setIfInBounds_toArray,List.set_cons_zero,List.set_cons_succ,Nat.reduceAdd]at hk ⊢;try simp only[hk]
   ·exact jK
   ·have hx:HeapIs w5 yq #[v,.int .i64 0,.int .i64 0,.int .i64 0,.slice none 0 0,.int .i32 0] 34:=ho.out.box.keep hs;have hc:=hx.cell 0;have hl:=hx.lt;clear hx;exact jK
   iterate 3
    ·exact jK
   ·obtain⟨hS,hR⟩:=Hb.out w5 hs;exact jx
   ·exact jK
   ·have h9:=hV.out;exact jK
   ·clear hk;go_wp2_with fail
    refine (Wd 0 (o+i) w5 kS hV.out).mono ?_;rintro e w6 ⟨rfl,hq⟩;go_wp2
    exact⟨_,rfl,rfl,hq⟩
   ·exact jK
   ·obtain⟨hS,hR⟩:=h5.out w5 hs;exact jx
   iterate 3
    ·exact jK
   ·obtain⟨hS,hR⟩:=Ha.out w5 hs;exact jx
   ·clear hk;go_wp2_with fail
    refine (Wc 0 dst w5 kS Hf.out).mono ?_;rintro e w6 ⟨rfl,hq⟩;go_wp2
    exact⟨_,rfl,rfl,hq⟩
   ·clear hk;go_wp2
    exact⟨_,rfl,⟨[Yr 30 0 (o+i),Yr 31 0 dst],Nat.le_refl 2,Zaz (HeapIs.new _ _ _),fun y hy=>by
   rcases List.mem_cons.1 hy with hy|hy
   ·rw[hy];exact PlNew.laid (.inl rfl) kS Hg.out HG.out.Sle
   ·rw[List.mem_singleton.1 hy];exact PlNew.laid (.inr rfl) kS hZ.out HG.out.Sle⟩,(Since.refl _).alloc _⟩
  ·obtain rfl:pl=i:=kT
   go_wp2_with fail
   exact HQ.out _ _ v xs (ZI rfl rfl (Za rfl (Za rfl (Za rfl (Za rfl (Za rfl (Za rfl (Za rfl (Zh _))))))))) (ho.out.more kT)
theorem Zel (wY:World) (mq xq rq pq yq:Nat) (params S:Int) (bs:List ZC) (BB boff n bc:Nat) (k:ZC) (OB ooff oc:Nat) (ow:List Int) (b:Nat) (v0:Value) (xs0:List PlV) (a0:Act) (w1:World) (Q0:Exit→Act→World→Prop) (hM:FrV [(2,.pointer (some ⟨mq,0,none⟩)),(4,.pointer (some ⟨rq,0,none⟩)),(6,.pointer (some ⟨pq,0,none⟩)),(7,.slice (some ⟨OB,ooff,none⟩) n oc),(10,.int .i64 b),(11,.pointer (some ⟨xq,0,none⟩)),(12,.pointer (some ⟨yq,0,none⟩)),(15,.int .i64 (0:Nat))] a0)
  (hd:NvD mq xq params bs BB boff n bc k OB ooff oc ow wY) (hg:NvG params S bs n ow) (hL:bs[b]? = some k) (he:NvY S wY 10 yq v0 xs0 w1)
  (hQ:∀ a1 w2 v2 xs2,FrV [(2,.pointer (some ⟨mq,0,none⟩)),(4,.pointer (some ⟨rq,0,none⟩)),(6,.pointer (some ⟨pq,0,none⟩)),(7,.slice (some ⟨OB,ooff,none⟩) n oc),(10,.int .i64 b),(11,.pointer (some ⟨xq,0,none⟩)),(12,.pointer (some ⟨yq,0,none⟩))] a1→NvY S wY (10+7*k.ins.length) yq v2 xs2 w2→Q0 .normal a1 w2):Code.wp Tryz.prog (VCode [1,1,1,1,1,1,1,0,1,0,0,1,0,0,1,1,1,1,0,1]) Q0 a0 w1:=by
 obtain⟨u,hh,hu⟩:=ZH hM;obtain⟨g1,g2,s2,s4,s6,s7,s10,s11,s12,s15,g3⟩:=hM;have e2:=hu 2 _ s2;have e4:=hu 4 _ s4;have e6:=hu 6 _ s6;have e7:=hu 7 _ s7;have e10:=hu 10 _ s10;have e11:=hu 11 _ s11;have e12:=hu 12 _ s12;have e15:=hu 15 _ s15;rw[e2,e4,e6,e7,e10,e11,e12,e15]at hh;subst hh;clear hu g1 g2 g3 e2 s2 e4 s4 e6 s6 e7 s7 e10 s10 e11 s11 e12 s12 e15 s15
 conv=>arg 2;whnf
 have HQ:=hid hQ;have HD:=hid hd;have HG:=hid hg;have h6:=hid hL;clear hQ hd hg hL;have ho:=HG.out.each k (List.mem_of_getElem? h6.out);have h9:=hid ho.1.ins;have h8:=hid ho.2.1.ins;have hC:=ho.2.2;obtain⟨ia,ic,hw,_⟩:=RowIn.shape (show RowIn Z9 8 WH wY k.insv k.ins from HD.out.xin.2.1);obtain⟨il,hy⟩:∃ z,k.ins.length=z:=⟨_,rfl⟩
 rw[hy]at hw hC;have hP:=hid hy;have hB:=hid hw;clear ho hw hy;go_wp2_with fail
 refine ZO (fun t ac wr=>∃ (i:Nat) (v:Value) (xs:List PlV),t=il-i∧i≤il∧FrV [(2,.pointer (some ⟨mq,0,none⟩)),(4,.pointer (some ⟨rq,0,none⟩)),(6,.pointer (some ⟨pq,0,none⟩)),(7,.slice (some ⟨OB,ooff,none⟩) n oc),(10,.int .i64 b),(11,.pointer (some ⟨xq,0,none⟩)),(12,.pointer (some ⟨yq,0,none⟩)),(15,.int .i64 i)] ac∧NvY S wY (10+7*i) yq v xs wr) il ⟨0,_,_,rfl,Nat.zero_le _,(ZI rfl rfl (Za rfl (Za rfl (Za rfl (Za rfl (Za rfl (Za rfl (Za rfl (Za rfl (Zh _)))))))))),he⟩ ?_
 ·clear he;intro t a1 wr K hJ hK;have h7:=hid hK;clear hK;obtain⟨i,v,xs,rfl,hi,hf,he⟩:=hJ;obtain⟨u,hh,hu⟩:=ZH hf;obtain⟨g1,g2,s2,s4,s6,s7,s10,s11,s12,s15,g3⟩:=hf;have e2:=hu 2 _ s2;have e4:=hu 4 _ s4;have e6:=hu 6 _ s6;have e7:=hu 7 _ s7;have e10:=hu 10 _ s10;have e11:=hu 11 _ s11;have e12:=hu 12 _ s12;have e15:=hu 15 _ s15;rw[e2,e4,e6,e7,e10,e11,e12,e15]at hh;subst hh;clear hu g1 g2 g3 e2 s2 e4 s4 e6 s6 e7 s7 e10 s10 e11 s11 e12 s12 e15 s15;have hj:=hid he;have hm:=hid (HD.out.keep he.old);have hG:=hm.out.xbox.cell 1;rw[show (#[k.phv,k.insv,.int .i64 k.fin.op,.int .i64 k.fin.a,.int .i64 k.fin.b,k.fin.tov,.int .i32 k.fin.imm]:Array Value)[1]? = some k.insv from rfl,hB.out]at hG
  have hS:=hm.out.xbox.lt;clear he;by_cases hW:i<il
  ·obtain⟨IB,ioff,x,rfl,hA,hx,hN,hr⟩:=RowIn.at (show RowIn Z9 8 WH wr (.slice ia il ic) k.ins from by rw[←hB.out];exact hm.out.xin.2.1) (by rw[hP.out];exact hW)
   have hq:=List.mem_of_getElem? hx;have h0:=hid (h9.out x hq);have hZ:=hid (h8.out x hq);obtain⟨xm,xav⟩:=x;have h2:=zH (Zi wr xav xm.args) hr;have Ha:=hid (fun (w5:World) (hs:Since wr w5)=>show (∀ t,t<8→w5.cell? ⟨IB,ioff+i*8+t,none⟩=(Z9 ⟨xm,xav⟩)[t]?)∧IB<w5.heap.size from⟨fun t ht=>by rw[hs.cell (p:=⟨IB,ioff+i*8+t,none⟩) hA];exact hN t ht,Nat.lt_of_lt_of_le hA hs.size⟩)
   have h1:=hid (fun (w5:World) (hs:Since wr w5)=>show w5.cell? ⟨xq,1,none⟩=some (.slice (some ⟨IB,ioff,none⟩) il ic)∧xq<w5.heap.size from by
    refine⟨?_,(hm.out.keep hs).xbox.lt⟩;rw[←hB.out];exact (hm.out.keep hs).xbox.cell 1)
   have h5:=zH (0≤(i:Int)∧(i:Int)≤5000) kT;have Hb:=zH (10+7*i≤100000) kT;clear hx hq hr hN;go_upto_region 27 with fail
   clear hG hS hA;refine Zg 9 rfl kK kK kK kS
    [Is (.pointer (some ⟨yq,0,none⟩)),Is v,Is (.pointer (some ⟨xq,1,none⟩)),Is (.slice (some ⟨IB,ioff,none⟩) il ic),Is (.int .i64 i),Is (.pointer (some ⟨IB,ioff+i*8,none⟩)),Is (mav ⟨xm,xav⟩),Is (.int .i64 i),GoodRow wY.heap.size S 7]
    jU ⟨?_,?_,?_,?_,?_,?_,?_,?_,?_,trivial⟩ ?_
   rotate_right
   ·intro vs w5 hs hk;simp only[List.take,List.drop,putAll,Act.put,Zc,Ze,Is,List.setIfInBounds_toArray,List.set_cons_zero,List.set_cons_succ,Nat.reduceAdd]at hk ⊢;try simp only[hk]
    obtain⟨ys,hE,hD,hF⟩:GoodRow wY.heap.size S 7 (vs 8) w5:=by exact hk.2.2.2.2.2.2.2.2.1
    generalize vs 8=xv at *;have hb:=hid (hj.out.keep hs);have hY:=hid hE;have hX:=hid hD;have hO:=hid hF;have h4:=zH (xs.length+ys.length≤1000000) (by have:=hj.out.few;have:=Hb.out;omega);clear hk hs hE hD hF;go_wp2_with (refine Z8 (base:=wY.heap.size) plcells 9 ZE kS rfl _ _ 30 rfl 38 (.agg #[.int .i64 0,.int .i64 0,.int .i64 0,.int .i64 0,.int .i64 0,.int .i64 0,.int .i32 0,.slice none 0 0,.int .i64 0]) 88 Tryz.underlying30 kO rfl kS v xv xs ys rfl rfl hb.out.row (XG ZE kS hX.out) (Wt hO.out) h4.out hb.out.old.size ?_;intro v' w6 hn ht hv;obtain⟨va2,vc2,hH⟩:=Zf (show w6.ownsRow _ _ _ _ _ _ from hn);obtain⟨l2,hI⟩:∃ z,(xs++ys).length=z:=⟨_,rfl⟩;rw[hI]at hH;subst hH;have hR:=hid hn;have h3:=hid ht;have Hj:=hid hv;have hp:=hb.out.box.turn ht (Zm hb.out.row hb.out.box kS);have Hg:=hp.lt;have Hh:=hp.frozen;have Hi:=hp.cell 0;clear hn ht hv hp hI)
    exact h7.out (il-(i+1)) _ _ kT ⟨i+1,_,_,rfl,kT,(ZI rfl rfl (Za rfl (Za rfl (Za rfl (Za rfl (Za rfl (Za rfl (Za rfl (Za rfl (Zh _)))))))))),hb.out.put hR.out h3.out hO.out (by have:=hb.out.few;have:=hY.out;omega)⟩
   all_goals
    intro vs w5 hs hk _;simp only[List.take,putAll,Act.put,Zk,Ze,Is,List.setIfInBounds_toArray,List.set_cons_zero,List.set_cons_succ,Nat.reduceAdd]at hk ⊢;try simp only[hk]
   ·exact jK
   ·have hz:HeapIs w5 yq #[v,.int .i64 0,.int .i64 0,.int .i64 0,.slice none 0 0,.int .i32 0] 34:=hj.out.box.keep hs;have hc:=hz.cell 0;have hl:=hz.lt;clear hz;exact jK
   ·exact jK
   ·obtain⟨Hf,He⟩:=h1.out w5 hs;exact jx
   iterate 2
    ·exact jK
   ·obtain⟨ha,Hc⟩:=Ha.out w5 hs;clear hk;have g0:=ha 0 kS;have g1:=ha 1 kS;have g2:=ha 2 kS;have g3:=ha 3 kS;have g4:=ha 4 kS;have g5:=ha 5 kS;have g6:=ha 6 kS;have g7:=ha 7 kS
    replace g0:w5.cell? ⟨IB,ioff+i*8,none⟩=some (.int .i64 xm.op):=g0
    replace g1:w5.cell? ⟨IB,ioff+i*8+1,none⟩=some (.int .i64 xm.d):=g1
    replace g2:w5.cell? ⟨IB,ioff+i*8+2,none⟩=some (.int .i64 xm.e):=g2
    replace g3:w5.cell? ⟨IB,ioff+i*8+3,none⟩=some (.int .i64 xm.a):=g3
    replace g4:w5.cell? ⟨IB,ioff+i*8+4,none⟩=some (.int .i64 xm.b):=g4
    replace g5:w5.cell? ⟨IB,ioff+i*8+5,none⟩=some (.int .i64 xm.c):=g5
    replace g6:w5.cell? ⟨IB,ioff+i*8+6,none⟩=some (.int .i32 xm.imm):=g6
    replace g7:w5.cell? ⟨IB,ioff+i*8+7,none⟩=some (xav):=g7
    clear ha;unfold mav;dsimp only;exact jK
   ·exact jK
   ·clear hk;go_wp2_with fail
    refine (ZbU ⟨xm,xav⟩ i w5 S (h2.out.keep hs) h0.out hZ.out HG.out.Sle h5.out).mono ?_;rintro e w6 ⟨v7,rfl,hU,hV⟩;have hT:=hU.low (Nat.le_trans hj.out.old.size hs.size);go_wp2
    exact⟨_,rfl,hT,hV⟩
  ·obtain rfl:il=i:=kT
   go_wp2_with fail
   exact HQ.out _ _ v xs (ZI rfl rfl (Za rfl (Za rfl (Za rfl (Za rfl (Za rfl (Za rfl (Za rfl (Zh _))))))))) (hj.out.more (by have:=hP.out;omega))
theorem NvD.blk {mq xq:Nat} {params:Int} {bs:List ZC} {BB boff n bc:Nat} {k ks:ZC} {OB ooff oc:Nat} {ow:List Int} {w : World} (h:NvD mq xq params bs BB boff n bc k OB ooff oc ow w) {s : Nat} (hs:bs[s]? = some ks):(∀ t,t<7→w.cell? ⟨BB,boff+s*7+t,none⟩=(mbcells ks)[t]?)∧BB<w.heap.size∧MBlkIn w ks:=by
 obtain⟨B1,o1,y,he,hB,hy,hb,ha⟩:=RowIn.at h.prog (List.getElem?_eq_some_iff.1 hs).1
 cases he
 rw[hs]at hy
 cases hy
 exact⟨hb,hB,ha⟩
theorem ZcF (wY:World) (mq xq rq pq yq:Nat) (params S:Int) (bs:List ZC) (BB boff n bc:Nat) (k:ZC) (OB ooff oc:Nat) (ow:List Int) (b:Nat) (v0:Value) (xs0:List PlV) (s i:Nat) (ia:Option Addr) (il ic:Nat) (prs:List (Int × Int)) (o:Int) (c:Nat) (a0:Act) (w1:World) (Q0:Exit→Act→World→Prop) (hI:FrV [(2,.pointer (some ⟨mq,0,none⟩)),(4,.pointer (some ⟨rq,0,none⟩)),(6,.pointer (some ⟨pq,0,none⟩)),(7,.slice (some ⟨OB,ooff,none⟩) n oc),(10,.int .i64 b),(11,.pointer (some ⟨xq,0,none⟩)),(12,.pointer (some ⟨yq,0,none⟩)),(16,.int .i64 s),(17,.int .i64 i),(18,.slice ia il ic),(19,.int .i64 (0:Nat))] a0)
  (hd:NvD mq xq params bs BB boff n bc k OB ooff oc ow wY) (hg:NvG params S bs n ow) (hG:bs[b]? = some k) (hE:RowIn prcells 2 (fun _ _=>True) wY (.slice ia il ic) prs) (hH:prs.length=il) (He:il≤9) (hn:∀ y∈prs,0≤y.2∧y.2<S) (hp:ow[s]? = some o∧0≤o+(i:Int)∧o+(i:Int)<S) (hD:s<n) (Hg:c≤50000) (ha:NvY S wY c yq v0 xs0 w1)
  (hQ:∀ a1 w2 v2 xs2,FrV [(2,.pointer (some ⟨mq,0,none⟩)),(4,.pointer (some ⟨rq,0,none⟩)),(6,.pointer (some ⟨pq,0,none⟩)),(7,.slice (some ⟨OB,ooff,none⟩) n oc),(10,.int .i64 b),(11,.pointer (some ⟨xq,0,none⟩)),(12,.pointer (some ⟨yq,0,none⟩)),(16,.int .i64 s),(17,.int .i64 i)] a1→NvY S wY (c+18) yq v2 xs2 w2→Q0 .normal a1 w2):Code.wp Tryz.prog (VCode [1,1,1,1,1,1,1,0,1,0,0,1,0,0,1,1,1,1,1,0,1,0,0,1,0,0,1,0,0,1,0,0,1,1]) Q0 a0 w1:=by
 obtain⟨u,he,hu⟩:=ZH hI;obtain⟨g1,g2,s2,s4,s6,s7,s10,s11,s12,s16,s17,s18,s19,g3⟩:=hI;have e2:=hu 2 _ s2;have e4:=hu 4 _ s4;have e6:=hu 6 _ s6;have e7:=hu 7 _ s7;have e10:=hu 10 _ s10;have e11:=hu 11 _ s11;have e12:=hu 12 _ s12;have e16:=hu 16 _ s16;have e17:=hu 17 _ s17;have e18:=hu 18 _ s18;have e19:=hu 19 _ s19;rw[e2,e4,e6,e7,e10,e11,e12,e16,e17,e18,e19]at he;subst he;clear hu g1 g2 g3 e2 s2 e4 s4 e6 s6 e7 s7 e10 s10 e11 s11 e12 s12 e16 s16 e17 s17 e18 s18 e19 s19
 conv=>arg 2;whnf
 have HQ:=hid hQ;have HD:=hid hd;have HG:=hid hg;have Hn:=hid hG;clear hQ hd hg hG;have h2:=hid hE;have Ha:=hid hH;have hZ:=hid hn;have h4:=hid hp.1;have hO:=hp.2;have Hh:s<n:=by
  have h9:s<n:=hD;exact h9
 have Hf:=HG.out.n9;have Hl:=HG.out.Sle;clear hE hH hn hp hD;go_wp2_with fail
 refine ZO (fun t ac wr=>∃ (j:Nat) (v:Value) (xs:List PlV),t=il-j∧j≤il∧FrV [(2,.pointer (some ⟨mq,0,none⟩)),(4,.pointer (some ⟨rq,0,none⟩)),(6,.pointer (some ⟨pq,0,none⟩)),(7,.slice (some ⟨OB,ooff,none⟩) n oc),(10,.int .i64 b),(11,.pointer (some ⟨xq,0,none⟩)),(12,.pointer (some ⟨yq,0,none⟩)),(16,.int .i64 s),(17,.int .i64 i),(18,.slice ia il ic),(19,.int .i64 j)] ac∧NvY S wY (c+2*j) yq v xs wr) il ⟨0,_,_,rfl,Nat.zero_le _,(ZI rfl rfl (Za rfl (Za rfl (Za rfl (Za rfl (Za rfl (Za rfl (Za rfl (Za rfl (Za rfl (Za rfl (Za rfl (Zh _))))))))))))),ha⟩ ?_
 ·clear ha;intro t a1 wr K hJ hK;have hN:=hid hK;clear hK;obtain⟨j,v,xs,rfl,hj,hf,ha⟩:=hJ;obtain⟨u,he,hu⟩:=ZH hf;obtain⟨g1,g2,s2,s4,s6,s7,s10,s11,s12,s16,s17,s18,s19,g3⟩:=hf;have e2:=hu 2 _ s2;have e4:=hu 4 _ s4;have e6:=hu 6 _ s6;have e7:=hu 7 _ s7;have e10:=hu 10 _ s10;have e11:=hu 11 _ s11;have e12:=hu 12 _ s12;have e16:=hu 16 _ s16;have e17:=hu 17 _ s17;have e18:=hu 18 _ s18;have e19:=hu 19 _ s19;rw[e2,e4,e6,e7,e10,e11,e12,e16,e17,e18,e19]at he;subst he;clear hu g1 g2 g3 e2 s2 e4 s4 e6 s6 e7 s7 e10 s10 e11 s11 e12 s12 e16 s16 e17 s17 e18 s18 e19 s19;have hh:=hid ha;have Hb:=hid (HD.out.keep ha.old);have h1:=hid (RowIn.keep (fun _ _ _ _ _=>trivial) h2.out ha.old);clear ha;by_cases hS:j<il
  ·obtain⟨IB,ioff,y,rfl,hw,hy,hr,_⟩:=RowIn.at h1.out (by rw[Ha.out];exact hS);have hx:=hZ.out y (List.mem_of_getElem? hy);obtain⟨y1,y2⟩:=y;dsimp only at hx;have hV:wr.cell? ⟨IB,ioff+j*2,none⟩=some (.int .i64 y1):=hr 0 kS;have h3:=hid (fun (w5:World) (hs:Since wr w5)=>show w5.cell? ⟨IB,ioff+j*2+1,none⟩=some (.int .i64 y2)∧IB<w5.heap.size from⟨by rw[hs.cell (p:=⟨IB,ioff+j*2+1,none⟩) hw];exact hr 1 kS,Nat.lt_of_lt_of_le hw hs.size⟩)
   have h5:=hid (fun (w5:World) (hs:Since wr w5)=>show w5.cell? ⟨OB,ooff+s,none⟩=some (.int .i64 o)∧OB<w5.heap.size from (Hb.out.keep hs).ocell h4.out)
   have hM:=zH (0≤o+(i:Int)∧o+(i:Int)<100000) kT;have h8:=zH (0≤o+(i:Int)∧o+(i:Int)<S) kT;have h7:=zH (0≤y2∧y2<100000) kT;have hR:=zH (0≤y2∧y2<S) kT;have Hc:=zH (c+2*j≤100000) kT;obtain⟨bq,hW⟩:∃ z,(y1==(b:Int))=z:=⟨_,rfl⟩
   clear hy hx hr hO
   cases bq
   ·go_wp2_with fail
    exact hN.out (il-(j+1)) _ _ kT ⟨j+1,_,_,rfl,kT,(ZI rfl rfl (Za rfl (Za rfl (Za rfl (Za rfl (Za rfl (Za rfl (Za rfl (Za rfl (Za rfl (Za rfl (Za rfl (Zh _))))))))))))),hh.out.more kT⟩
   ·go_upto_region 39 with fail
    clear hV hw hW;refine Zg 16 rfl kK kK kK kS
     [Is (.pointer (some ⟨yq,0,none⟩)),Is v,Is (.slice (some ⟨IB,ioff,none⟩) il ic),Is (.int .i64 j),Is (.pointer (some ⟨IB,ioff+j*2,none⟩)),Is (.pointer (some ⟨IB,ioff+j*2+1,none⟩)),Is (.int .i64 y2),Is (.agg #[.int .i64 30,.int .i64 0,.int .i64 0,.int .i64 0,.int .i64 0,.int .i64 0,.int .i32 y2,.slice none 0 0,.int .i64 (-1)]),Is (.slice (some ⟨OB,ooff,none⟩) n oc),Is (.int .i64 s),Is (.pointer (some ⟨OB,ooff+s,none⟩)),Is (.int .i64 o),Is (.int .i64 i),Is (.int .i64 (o+i)),Is (.agg #[.int .i64 31,.int .i64 0,.int .i64 0,.int .i64 0,.int .i64 0,.int .i64 0,.int .i32 (o+i),.slice none 0 0,.int .i64 (-1)]),GoodRow wY.heap.size S 2]
     jU ⟨?_,?_,?_,?_,?_,?_,?_,?_,?_,?_,?_,?_,?_,?_,?_,?_,trivial⟩ ?_
    rotate_right
    ·intro vs w5 hs hk;simp only[List.take,List.drop,putAll,Act.put,Zc,Ze,Is,List.setIfInBounds_toArray,List.set_cons_zero,List.set_cons_succ,Nat.reduceAdd]at hk ⊢;try simp only[hk]
     obtain⟨ys,hA,hz,hB⟩:GoodRow wY.heap.size S 2 (vs 15) w5:=by exact hk.2.2.2.2.2.2.2.2.2.2.2.2.2.2.2.1
     generalize vs 15=xv at *;have hb:=hid (hh.out.keep hs);have hY:=hid hA;have hX:=hid hz;have hL:=hid hB;have h6:=zH (xs.length+ys.length≤1000000) (by have:=hh.out.few;have:=Hc.out;omega);clear hk hs hA hz hB;go_wp2_with (refine Z8 (base:=wY.heap.size) plcells 9 ZE kS rfl _ _ 30 rfl 38 (.agg #[.int .i64 0,.int .i64 0,.int .i64 0,.int .i64 0,.int .i64 0,.int .i64 0,.int .i32 0,.slice none 0 0,.int .i64 0]) 88 Tryz.underlying30 kO rfl kS v xv xs ys rfl rfl hb.out.row (XG ZE kS hX.out) (Wt hL.out) h6.out hb.out.old.size ?_;intro v' w6 hi ht hq;obtain⟨va2,vc2,hC⟩:=Zf (show w6.ownsRow _ _ _ _ _ _ from hi);obtain⟨l2,hF⟩:∃ z,(xs++ys).length=z:=⟨_,rfl⟩;rw[hF]at hC;subst hC;have hP:=hid hi;have h0:=hid ht;have Hm:=hid hq;have hm:=hb.out.box.turn ht (Zm hb.out.row hb.out.box kS);have Hi:=hm.lt;have Hj:=hm.frozen;have Hk:=hm.cell 0;clear hi ht hq hm hF)
     exact hN.out (il-(j+1)) _ _ kT ⟨j+1,_,_,rfl,kT,(ZI rfl rfl (Za rfl (Za rfl (Za rfl (Za rfl (Za rfl (Za rfl (Za rfl (Za rfl (Za rfl (Za rfl (Za rfl (Zh _))))))))))))),hb.out.put hP.out h0.out hL.out (by have:=hb.out.few;have:=hY.out;omega)⟩
    all_goals
     intro vs w5 hs hk _;simp only[List.take,putAll,Act.put,Zk,Ze,Is,List.setIfInBounds_toArray,List.set_cons_zero,List.set_cons_succ,Nat.reduceAdd]at hk ⊢;try simp only[hk]
    ·exact jK
    ·have hv:HeapIs w5 yq #[v,.int .i64 0,.int .i64 0,.int .i64 0,.slice none 0 0,.int .i32 0] 34:=hh.out.box.keep hs;have hc:=hv.cell 0;have hl:=hv.lt;clear hv;exact jK
    iterate 4
     ·exact jK
    ·obtain⟨hU,hT⟩:=h3.out w5 hs;exact jx
    ·clear hk;go_wp2_with fail
     refine (Wd 0 y2 w5 kS h7.out).mono ?_;rintro e w6 ⟨rfl,ho⟩;go_wp2
     exact⟨_,rfl,rfl,ho⟩
    iterate 3
     ·exact jK
    ·obtain⟨hU,hT⟩:=h5.out w5 hs;exact jx
    ·exact jK
    ·have h9:=hM.out;exact jK
    ·clear hk;go_wp2_with fail
     refine (Wc 0 (o+i) w5 kS hM.out).mono ?_;rintro e w6 ⟨rfl,ho⟩;go_wp2
     exact⟨_,rfl,rfl,ho⟩
    ·clear hk;go_wp2
     exact⟨_,rfl,⟨[Yr 30 0 y2,Yr 31 0 (o+i)],Nat.le_refl 2,Zaz (HeapIs.new _ _ _),fun y hy=>by
   rcases List.mem_cons.1 hy with hy|hy
   ·rw[hy];exact PlNew.laid (.inl rfl) kS hR.out HG.out.Sle
   ·rw[List.mem_singleton.1 hy];exact PlNew.laid (.inr rfl) kS h8.out HG.out.Sle⟩,(Since.refl _).alloc _⟩
  ·obtain rfl:il=j:=kT
   go_wp2_with fail
   exact HQ.out _ _ v xs (ZI rfl rfl (Za rfl (Za rfl (Za rfl (Za rfl (Za rfl (Za rfl (Za rfl (Za rfl (Za rfl (Zh _))))))))))) (hh.out.more kT)
theorem ZbO (wY:World) (mq xq rq pq yq:Nat) (params S:Int) (bs:List ZC) (BB boff n bc:Nat) (k:ZC) (OB ooff oc:Nat) (ow:List Int) (b:Nat) (v0:Value) (xs0:List PlV) (s:Nat) (ks:ZC) (c:Nat) (a0:Act) (w1:World) (Q0:Exit→Act→World→Prop) (hz:FrV [(2,.pointer (some ⟨mq,0,none⟩)),(4,.pointer (some ⟨rq,0,none⟩)),(6,.pointer (some ⟨pq,0,none⟩)),(7,.slice (some ⟨OB,ooff,none⟩) n oc),(10,.int .i64 b),(11,.pointer (some ⟨xq,0,none⟩)),(12,.pointer (some ⟨yq,0,none⟩)),(16,.int .i64 s),(17,.int .i64 (0:Nat))] a0)
  (hd:NvD mq xq params bs BB boff n bc k OB ooff oc ow wY) (hg:NvG params S bs n ow) (hw:bs[b]? = some k) (hc:bs[s]? = some ks) (h0:c≤40000) (ha:NvY S wY c yq v0 xs0 w1)
  (hQ:∀ a1 w2 v2 xs2,FrV [(2,.pointer (some ⟨mq,0,none⟩)),(4,.pointer (some ⟨rq,0,none⟩)),(6,.pointer (some ⟨pq,0,none⟩)),(7,.slice (some ⟨OB,ooff,none⟩) n oc),(10,.int .i64 b),(11,.pointer (some ⟨xq,0,none⟩)),(12,.pointer (some ⟨yq,0,none⟩)),(16,.int .i64 s)] a1→NvY S wY (c+54) yq v2 xs2 w2→Q0 .normal a1 w2):Code.wp Tryz.prog (VCode [1,1,1,1,1,1,1,0,1,0,0,1,0,0,1,1,1,1,1,0,1,0,0,1,0,0,1]) Q0 a0 w1:=by
 obtain⟨u,hb,hu⟩:=ZH hz;obtain⟨g1,g2,s2,s4,s6,s7,s10,s11,s12,s16,s17,g3⟩:=hz;have e2:=hu 2 _ s2;have e4:=hu 4 _ s4;have e6:=hu 6 _ s6;have e7:=hu 7 _ s7;have e10:=hu 10 _ s10;have e11:=hu 11 _ s11;have e12:=hu 12 _ s12;have e16:=hu 16 _ s16;have e17:=hu 17 _ s17;rw[e2,e4,e6,e7,e10,e11,e12,e16,e17]at hb;subst hb;clear hu g1 g2 g3 e2 s2 e4 s4 e6 s6 e7 s7 e10 s10 e11 s11 e12 s12 e16 s16 e17 s17
 conv=>arg 2;whnf
 have HQ:=hid hQ;have HD:=hid hd;have HG:=hid hg;have hU:=hid hw;clear hQ hd hg hw;have hk:=HG.out.each ks (List.mem_of_getElem? hc);obtain⟨o,hv,hY,hF⟩:=HG.out.own s ks hc;have hT:=hid hv;have hD:s<n:=by have h9:=(List.getElem?_eq_some_iff.1 hc).1;rw[HG.out.len]at h9;exact h9
 have hZ:=HG.out.n9;have hS:=hid hk.1.phis;have hP:=hid hk.2.1.val;have hC:=hk.1.few;have hh:=hid (HD.out.blk hc);obtain⟨pa,pc,hn,_⟩:=RowIn.shape (show RowIn fpcells 2 YD wY ks.phv ks.phis from hh.out.2.2.1);obtain⟨pl,hp⟩:∃ z,ks.phis.length=z:=⟨_,rfl⟩
 rw[hp]at hn hC hF;have hR:=hid hp;have hB:=hid hn;have h1:=hid hc;clear hv hk hn hp hc;go_wp2_with fail
 refine ZO (fun t ac wr=>∃ (i:Nat) (v:Value) (xs:List PlV),t=pl-i∧i≤pl∧FrV [(2,.pointer (some ⟨mq,0,none⟩)),(4,.pointer (some ⟨rq,0,none⟩)),(6,.pointer (some ⟨pq,0,none⟩)),(7,.slice (some ⟨OB,ooff,none⟩) n oc),(10,.int .i64 b),(11,.pointer (some ⟨xq,0,none⟩)),(12,.pointer (some ⟨yq,0,none⟩)),(16,.int .i64 s),(17,.int .i64 i)] ac∧NvY S wY (c+18*i) yq v xs wr) pl ⟨0,_,_,rfl,Nat.zero_le _,(ZI rfl rfl (Za rfl (Za rfl (Za rfl (Za rfl (Za rfl (Za rfl (Za rfl (Za rfl (Za rfl (Zh _))))))))))),ha⟩ ?_
 ·clear ha;intro t a1 wr K hJ hK;have hV:=hid hK;clear hK;obtain⟨i,v,xs,rfl,hi,hf,ha⟩:=hJ;obtain⟨u,hb,hu⟩:=ZH hf;obtain⟨g1,g2,s2,s4,s6,s7,s10,s11,s12,s16,s17,g3⟩:=hf;have e2:=hu 2 _ s2;have e4:=hu 4 _ s4;have e6:=hu 6 _ s6;have e7:=hu 7 _ s7;have e10:=hu 10 _ s10;have e11:=hu 11 _ s11;have e12:=hu 12 _ s12;have e16:=hu 16 _ s16;have e17:=hu 17 _ s17;rw[e2,e4,e6,e7,e10,e11,e12,e16,e17]at hb;subst hb;clear hu g1 g2 g3 e2 s2 e4 s4 e6 s6 e7 s7 e10 s10 e11 s11 e12 s12 e16 s16 e17 s17;have he:=hid ha;have hs:=HD.out.keep ha.old;have hH:=hs.mbox.cell 1;have hG:=hs.mbox.lt;have hN:BB<wr.heap.size:=Nat.lt_of_lt_of_le hh.out.2.1 ha.old.size;have hL:wr.cell? ⟨BB,boff+s*7,none⟩=some (.slice pa pl pc):=by
   rw[ha.old.cell (p:=⟨BB,boff+s*7,none⟩) hh.out.2.1,←hB.out];exact hh.out.1 0 kS
  clear hs;by_cases hI:i<pl
  ·obtain⟨PB,poff,y,rfl,ht,hy,hA,hj⟩:=RowIn.at (show RowIn fpcells 2 YD wY (.slice pa pl pc) ks.phis from by rw[←hB.out];exact hh.out.2.2.1) (by rw[hR.out];exact hI)
   obtain⟨dst,ins,inv⟩:=y;have hl:=List.mem_of_getElem? hy;obtain⟨_,hr,ho⟩:=hS.out _ hl;have hm:=hP.out _ hl;dsimp only at hr ho hm;obtain⟨ia,ic,hx,_⟩:=RowIn.shape (show RowIn prcells 2 (fun _ _=>True) wY inv ins from hj)
   obtain⟨il,hq⟩:∃ z,ins.length=z:=⟨_,rfl⟩
   rw[hq]at hx hr;subst hx;have hW:=zH (RowIn prcells 2 (fun _ _=>True) wY (.slice ia il ic) ins) hj;have hO:=zH (∀ y∈ins,0≤y.2∧y.2<S) (fun y h=>⟨(ho y h).2.1,hm y h⟩);have hX:=hid hq;have hE:wr.cell? ⟨PB,poff+i*2+1,none⟩=some (.slice ia il ic):=by
    rw[ha.old.cell (p:=⟨PB,poff+i*2+1,none⟩) ht];exact hA 1 kS
   have hM:PB<wr.heap.size:=Nat.lt_of_lt_of_le ht ha.old.size;clear hy hl ho hm hA hj ha ht hq;go_upto_block 14 with fail
   refine ZcF wY mq xq rq pq yq params S bs BB boff n bc k OB ooff oc ow b v xs s i ia il ic ins o (c+18*i) _ _ _ (ZI rfl rfl (Za rfl (Za rfl (Za rfl (Za rfl (Za rfl (Za rfl (Za rfl (Za rfl (Za rfl (Za rfl (Za rfl (Zh _))))))))))))) HD.out HG.out hU.out hW.out hX.out hr hO.out ⟨hT.out,kT,kT⟩ hD kT he.out ?_;clear hH hG hN hL hE hM he;intro a1 w2 v2 xs2 hf ha;obtain⟨u,hb,hu⟩:=ZH hf;obtain⟨g1,g2,s2,s4,s6,s7,s10,s11,s12,s16,s17,g3⟩:=hf;have e2:=hu 2 _ s2;have e4:=hu 4 _ s4;have e6:=hu 6 _ s6;have e7:=hu 7 _ s7;have e10:=hu 10 _ s10;have e11:=hu 11 _ s11;have e12:=hu 12 _ s12;have e16:=hu 16 _ s16;have e17:=hu 17 _ s17;rw[e2,e4,e6,e7,e10,e11,e12,e16,e17]at hb;subst hb;clear hu g1 g2 g3 e2 s2 e4 s4 e6 s6 e7 s7 e10 s10 e11 s11 e12 s12 e16 s16 e17 s17;have he:=hid ha;clear ha;go_wp2_with fail
   exact hV.out (pl-(i+1)) _ _ kT ⟨i+1,_,_,rfl,kT,(ZI rfl rfl (Za rfl (Za rfl (Za rfl (Za rfl (Za rfl (Za rfl (Za rfl (Za rfl (Za rfl (Zh _))))))))))),he.out.more kT⟩
  ·obtain rfl:pl=i:=kT
   clear ha;go_wp2_with fail
   exact HQ.out _ _ v xs (ZI rfl rfl (Za rfl (Za rfl (Za rfl (Za rfl (Za rfl (Za rfl (Za rfl (Za rfl (Zh _)))))))))) (he.out.more kT)
theorem ZbN (wY:World) (mq xq rq pq yq:Nat) (params S:Int) (bs:List ZC) (BB boff n bc:Nat) (k:ZC) (OB ooff oc:Nat) (ow:List Int) (b:Nat) (v0:Value) (xs0:List PlV) (c:Nat) (a0:Act) (w1:World) (Q0:Exit→Act→World→Prop) (hk:FrV [(2,.pointer (some ⟨mq,0,none⟩)),(4,.pointer (some ⟨rq,0,none⟩)),(6,.pointer (some ⟨pq,0,none⟩)),(7,.slice (some ⟨OB,ooff,none⟩) n oc),(10,.int .i64 b),(11,.pointer (some ⟨xq,0,none⟩)),(12,.pointer (some ⟨yq,0,none⟩)),(16,.int .i64 (0:Nat))] a0)
  (hd:NvD mq xq params bs BB boff n bc k OB ooff oc ow wY) (hg:NvG params S bs n ow) (hj:bs[b]? = some k) (hs:c≤30000) (ha:NvY S wY c yq v0 xs0 w1)
  (hQ:∀ a1 w2 v2 xs2,FrV [(2,.pointer (some ⟨mq,0,none⟩)),(4,.pointer (some ⟨rq,0,none⟩)),(6,.pointer (some ⟨pq,0,none⟩)),(7,.slice (some ⟨OB,ooff,none⟩) n oc),(10,.int .i64 b),(11,.pointer (some ⟨xq,0,none⟩)),(12,.pointer (some ⟨yq,0,none⟩))] a1→NvY S wY (c+486) yq v2 xs2 w2→Q0 .normal a1 w2):Code.wp Tryz.prog (VCode [1,1,1,1,1,1,1,0,1,0,0,1,0,0,1,1,1,1,1,0,1]) Q0 a0 w1:=by
 obtain⟨u,hb,hu⟩:=ZH hk;obtain⟨g1,g2,s2,s4,s6,s7,s10,s11,s12,s16,g3⟩:=hk;have e2:=hu 2 _ s2;have e4:=hu 4 _ s4;have e6:=hu 6 _ s6;have e7:=hu 7 _ s7;have e10:=hu 10 _ s10;have e11:=hu 11 _ s11;have e12:=hu 12 _ s12;have e16:=hu 16 _ s16;rw[e2,e4,e6,e7,e10,e11,e12,e16]at hb;subst hb;clear hu g1 g2 g3 e2 s2 e4 s4 e6 s6 e7 s7 e10 s10 e11 s11 e12 s12 e16 s16
 conv=>arg 2;whnf
 have HQ:=hid hQ;have HD:=hid hd;have HG:=hid hg;have hp:=hid hj;clear hQ hd hg hj;have hr:=HG.out.n9;go_wp2_with fail
 refine ZO (fun t ac wr=>∃ (i:Nat) (v:Value) (xs:List PlV),t=n-i∧i≤n∧FrV [(2,.pointer (some ⟨mq,0,none⟩)),(4,.pointer (some ⟨rq,0,none⟩)),(6,.pointer (some ⟨pq,0,none⟩)),(7,.slice (some ⟨OB,ooff,none⟩) n oc),(10,.int .i64 b),(11,.pointer (some ⟨xq,0,none⟩)),(12,.pointer (some ⟨yq,0,none⟩)),(16,.int .i64 i)] ac∧NvY S wY (c+54*i) yq v xs wr) n ⟨0,_,_,rfl,Nat.zero_le _,(ZI rfl rfl (Za rfl (Za rfl (Za rfl (Za rfl (Za rfl (Za rfl (Za rfl (Za rfl (Zh _)))))))))),ha⟩ ?_
 ·clear ha;intro t a1 wr K hJ hK;have hq:=hid hK;clear hK;obtain⟨i,v,xs,rfl,hi,hf,ha⟩:=hJ;obtain⟨u,hb,hu⟩:=ZH hf;obtain⟨g1,g2,s2,s4,s6,s7,s10,s11,s12,s16,g3⟩:=hf;have e2:=hu 2 _ s2;have e4:=hu 4 _ s4;have e6:=hu 6 _ s6;have e7:=hu 7 _ s7;have e10:=hu 10 _ s10;have e11:=hu 11 _ s11;have e12:=hu 12 _ s12;have e16:=hu 16 _ s16;rw[e2,e4,e6,e7,e10,e11,e12,e16]at hb;subst hb;clear hu g1 g2 g3 e2 s2 e4 s4 e6 s6 e7 s7 e10 s10 e11 s11 e12 s12 e16 s16;have hc:=hid ha;have he:=HD.out.keep ha.old;have hm:=he.mbox.cell 1;have hl:=he.mbox.lt;clear he ha;by_cases hn:i<n
  ·obtain⟨ks,hh⟩:∃ ks,bs[i]? = some ks:=⟨_,List.getElem?_eq_getElem (by rw[HG.out.len];exact hn)⟩
   have ho:=hid hh;clear hh;go_upto_block 12 with fail
   refine ZbO wY mq xq rq pq yq params S bs BB boff n bc k OB ooff oc ow b v xs i ks (c+54*i) _ _ _ (ZI rfl rfl (Za rfl (Za rfl (Za rfl (Za rfl (Za rfl (Za rfl (Za rfl (Za rfl (Za rfl (Zh _))))))))))) HD.out HG.out hp.out ho.out kT hc.out ?_;clear hm hl hc;intro a1 w2 v2 xs2 hf ha;obtain⟨u,hb,hu⟩:=ZH hf;obtain⟨g1,g2,s2,s4,s6,s7,s10,s11,s12,s16,g3⟩:=hf;have e2:=hu 2 _ s2;have e4:=hu 4 _ s4;have e6:=hu 6 _ s6;have e7:=hu 7 _ s7;have e10:=hu 10 _ s10;have e11:=hu 11 _ s11;have e12:=hu 12 _ s12;have e16:=hu 16 _ s16;rw[e2,e4,e6,e7,e10,e11,e12,e16]at hb;subst hb;clear hu g1 g2 g3 e2 s2 e4 s4 e6 s6 e7 s7 e10 s10 e11 s11 e12 s12 e16 s16;have hc:=hid ha;clear ha;go_wp2_with fail
   exact hq.out (n-(i+1)) _ _ kT ⟨i+1,_,_,rfl,kT,(ZI rfl rfl (Za rfl (Za rfl (Za rfl (Za rfl (Za rfl (Za rfl (Za rfl (Za rfl (Zh _)))))))))),hc.out.more kT⟩
  ·obtain rfl:n=i:=kT
   go_wp2_with fail
   exact HQ.out _ _ v xs (ZI rfl rfl (Za rfl (Za rfl (Za rfl (Za rfl (Za rfl (Za rfl (Za rfl (Zh _))))))))) (hc.out.more kT)
end Go.Proofs.YtimpddecdodddaaGreat
