import Derived.Test.YtimpddecdodddaaGreatSt40
namespace Go.Proofs.YtimpddecdodddaaGreat
open Go.Proofs.Tryz Go.RowKit Go.Lib
set_option linter.unusedVariables false
set_option maxHeartbeats 4000000
set_option maxRecDepth 1000000
theorem zJ {P:Prop} (h:P:=by
 rw[if_pos (by omega)];go_enter func70,ntmps70
 go_wp2
 go_ret
 exact Xl (Zk ((Since.refl _).alloc _) [a] _ (by simp) rfl (show 1≤maxLen from by decide) rfl) (by intro q hq;have h9:=Option.some.inj hq;simp at h9;simp;omega)):P:=h
theorem qg {P:Prop} (h:P:=by
 rw[if_neg (by omega)];have n3:=zN op 3;have n4:=zN op 4;have n5:=zN op 5;go_enter func70,ntmps70
 go_wp2
 go_ret
 exact Xl (ZP ((Since.refl _).alloc _)) (by intro q hq;cases hq)):P:=h
theorem NvD.blk {mq xq:Nat} {params:Int} {bs:List MBlkV} {BB boff n bc:Nat} {k ks:MBlkV} {OB ooff oc:Nat} {ow:List Int} {w : World} (h:NvD mq xq params bs BB boff n bc k OB ooff oc ow w) {s : Nat} (hs:bs[s]? = some ks):(∀ t,t<7→w.cell? ⟨BB,boff+s*7+t,none⟩=(mbcells ks)[t]?)∧BB<w.heap.size∧MBlkIn w ks:=by
 obtain⟨B1,o1,y,he,hB,hy,hb,ha⟩:=RowIn.at h.prog (List.getElem?_eq_some_iff.1 hs).1
 cases he
 rw[hs]at hy
 cases hy
 exact⟨hb,hB,ha⟩
theorem ZdJ (wY:World) (mq xq rq pq yq:Nat) (params S:Int) (bs:List MBlkV) (BB boff n bc:Nat) (k:MBlkV) (OB ooff oc:Nat) (ow:List Int) (b:Nat) (v0:Value) (xs0:List PlV) (s i:Nat) (ia:Option Addr) (il ic:Nat) (prs:List (Int × Int)) (o:Int) (c:Nat) (a0:Act) (w1:World) (Q0:Exit→Act→World→Prop) (hH:FrV [(2,.pointer (some ⟨mq,0,none⟩)),(4,.pointer (some ⟨rq,0,none⟩)),(6,.pointer (some ⟨pq,0,none⟩)),(7,.slice (some ⟨OB,ooff,none⟩) n oc),(10,.int .i64 b),(11,.pointer (some ⟨xq,0,none⟩)),(12,.pointer (some ⟨yq,0,none⟩)),(16,.int .i64 s),(17,.int .i64 i),(18,.slice ia il ic),(19,.int .i64 (0:Nat))] a0)
  (hd:NvD mq xq params bs BB boff n bc k OB ooff oc ow wY) (hg:NvG params S bs n ow) (hF:bs[b]? = some k) (hD:RowIn prcells 2 (fun _ _=>True) wY (.slice ia il ic) prs) (hG:prs.length=il) (Hc:il≤9) (hn:∀ y∈prs,0≤y.2∧y.2<S) (how:ow[s]? = some o∧0≤o+(i:Int)∧o+(i:Int)<S) (hC:s<n) (Hf:c≤50000) (ha:NvY S wY c yq v0 xs0 w1)
  (hQ:∀ a1 w2 v2 xs2,FrV [(2,.pointer (some ⟨mq,0,none⟩)),(4,.pointer (some ⟨rq,0,none⟩)),(6,.pointer (some ⟨pq,0,none⟩)),(7,.slice (some ⟨OB,ooff,none⟩) n oc),(10,.int .i64 b),(11,.pointer (some ⟨xq,0,none⟩)),(12,.pointer (some ⟨yq,0,none⟩)),(16,.int .i64 s),(17,.int .i64 i)] a1→NvY S wY (c+18) yq v2 xs2 w2→Q0 .normal a1 w2):Code.wp prog (VCode [1,1,1,1,1,1,1,0,1,0,0,1,0,0,1,1,1,1,1,0,1,0,0,1,0,0,1,0,0,1,0,0,1,1]) Q0 a0 w1:=by
 obtain⟨u,he,hu⟩:=ZK hH;obtain⟨g1,g2,s2,s4,s6,s7,s10,s11,s12,s16,s17,s18,s19,g3⟩:=hH;have e2:=hu 2 _ s2;have e4:=hu 4 _ s4;have e6:=hu 6 _ s6;have e7:=hu 7 _ s7;have e10:=hu 10 _ s10;have e11:=hu 11 _ s11;have e12:=hu 12 _ s12;have e16:=hu 16 _ s16;have e17:=hu 17 _ s17;have e18:=hu 18 _ s18;have e19:=hu 19 _ s19;rw[e2,e4,e6,e7,e10,e11,e12,e16,e17,e18,e19]at he;subst he;clear hu g1 g2 g3 e2 s2 e4 s4 e6 s6 e7 s7 e10 s10 e11 s11 e12 s12 e16 s16 e17 s17 e18 s18 e19 s19
 conv=>arg 2;whnf
 have HQ:=hid hQ;have HD:=hid hd;have HG:=hid hg;have Hm:=hid hF;clear hQ hd hg hF;have h1:=hid hD;have h8:=hid hG;have hY:=hid hn;have h3:=hid how.1;have hN:=how.2;have Hg:s<n:=by
  have h9:s<n:=hC;exact h9
 have He:=HG.out.n9;have Hk:=HG.out.Sle;clear hD hG hn how hC;go_wp2_with fail
 refine ZS (fun t ac wr=>∃ (j:Nat) (v:Value) (xs:List PlV),t=il-j∧j≤il∧FrV [(2,.pointer (some ⟨mq,0,none⟩)),(4,.pointer (some ⟨rq,0,none⟩)),(6,.pointer (some ⟨pq,0,none⟩)),(7,.slice (some ⟨OB,ooff,none⟩) n oc),(10,.int .i64 b),(11,.pointer (some ⟨xq,0,none⟩)),(12,.pointer (some ⟨yq,0,none⟩)),(16,.int .i64 s),(17,.int .i64 i),(18,.slice ia il ic),(19,.int .i64 j)] ac∧NvY S wY (c+2*j) yq v xs wr) il ⟨0,_,_,rfl,Nat.zero_le _,(ZN rfl rfl zf0),ha⟩ ?_
 ·clear ha;intro t a1 wr K hJ hK;have hM:=hid hK;clear hK;obtain⟨j,v,xs,rfl,hj,hf,ha⟩:=hJ;obtain⟨u,he,hu⟩:=ZK hf;obtain⟨g1,g2,s2,s4,s6,s7,s10,s11,s12,s16,s17,s18,s19,g3⟩:=hf;have e2:=hu 2 _ s2;have e4:=hu 4 _ s4;have e6:=hu 6 _ s6;have e7:=hu 7 _ s7;have e10:=hu 10 _ s10;have e11:=hu 11 _ s11;have e12:=hu 12 _ s12;have e16:=hu 16 _ s16;have e17:=hu 17 _ s17;have e18:=hu 18 _ s18;have e19:=hu 19 _ s19;rw[e2,e4,e6,e7,e10,e11,e12,e16,e17,e18,e19]at he;subst he;clear hu g1 g2 g3 e2 s2 e4 s4 e6 s6 e7 s7 e10 s10 e11 s11 e12 s12 e16 s16 e17 s17 e18 s18 e19 s19;have hh:=hid ha;have Ha:=hid (HD.out.keep ha.old);have h0:=hid (RowIn.keep (fun _ _ _ _ _=>trivial) h1.out ha.old);clear ha;by_cases hR:j<il
  ·obtain⟨IB,ioff,y,rfl,hv,hy,hq,_⟩:=RowIn.at h0.out (by rw[h8.out];exact hR);have hw:=hY.out y (List.mem_of_getElem? hy);obtain⟨y1,y2⟩:=y;dsimp only at hw;have hU:wr.cell? ⟨IB,ioff+j*2,none⟩=some (.int .i64 y1):=hq 0 zaJ;have h2:=hid (fun (w5:World) (hs:Since wr w5)=>show w5.cell? ⟨IB,ioff+j*2+1,none⟩=some (.int .i64 y2)∧IB<w5.heap.size from⟨by rw[hs.cell (p:=⟨IB,ioff+j*2+1,none⟩) hv];exact hq 1 zaJ,Nat.lt_of_lt_of_le hv hs.size⟩)
   have h4:=hid (fun (w5:World) (hs:Since wr w5)=>show w5.cell? ⟨OB,ooff+s,none⟩=some (.int .i64 o)∧OB<w5.heap.size from (Ha.out.keep hs).ocell h3.out)
   have hL:=zH (0≤o+(i:Int)∧o+(i:Int)<100000) zaK;have h7:=zH (0≤o+(i:Int)∧o+(i:Int)<S) zaK;have h6:=zH (0≤y2∧y2<100000) zaK;have hP:=zH (0≤y2∧y2<S) zaK;have Hb:=zH (c+2*j≤100000) zaK;obtain⟨bq,hV⟩:∃ z,(y1==(b:Int))=z:=⟨_,rfl⟩
   clear hy hw hq hN
   cases bq
   ·go_wp2_with fail
    exact hM.out (il-(j+1)) _ _ zaK ⟨j+1,_,_,rfl,zaK,(ZN rfl rfl zf0),hh.out.more zaK⟩
   ·go_upto_region 39 with fail
    clear hU hv hV;refine Zh 16 rfl zaC zaC zaC zaJ
     [Is (.pointer (some ⟨yq,0,none⟩)),Is v,Is (.slice (some ⟨IB,ioff,none⟩) il ic),Is (.int .i64 j),Is (.pointer (some ⟨IB,ioff+j*2,none⟩)),Is (.pointer (some ⟨IB,ioff+j*2+1,none⟩)),Is (.int .i64 y2),Is (.agg #[.int .i64 30,.int .i64 0,.int .i64 0,.int .i64 0,.int .i64 0,.int .i64 0,.int .i32 y2,.slice none 0 0,.int .i64 (-1)]),Is (.slice (some ⟨OB,ooff,none⟩) n oc),Is (.int .i64 s),Is (.pointer (some ⟨OB,ooff+s,none⟩)),Is (.int .i64 o),Is (.int .i64 i),Is (.int .i64 (o+i)),Is (.agg #[.int .i64 31,.int .i64 0,.int .i64 0,.int .i64 0,.int .i64 0,.int .i64 0,.int .i32 (o+i),.slice none 0 0,.int .i64 (-1)]),GoodRow wY.heap.size S 2]
     kQ ⟨?_,?_,?_,?_,?_,?_,?_,?_,?_,?_,?_,?_,?_,?_,?_,?_,trivial⟩ ?_
    rotate_right
    ·intro vs w5 hs hk;revert hk;refine zs0 ?_;intro hk
     obtain⟨ys,hz,hx,hA⟩:GoodRow wY.heap.size S 2 (vs 15) w5:=by exact hk.2.2.2.2.2.2.2.2.2.2.2.2.2.2.2.1
     generalize vs 15=xv at *;have hb:=hid (hh.out.keep hs);have hX:=hid hz;have hW:=hid hx;have hI:=hid hA;have h5:=zH (xs.length+ys.length≤1000000) (by have:=hh.out.few;have:=Hb.out;omega);clear hk hs hz hx hA;go_wp2_with (refine Z3 (base:=wY.heap.size) plcells 9 Zq zaJ rfl _ _ 30 rfl 38 (.agg #[.int .i64 0,.int .i64 0,.int .i64 0,.int .i64 0,.int .i64 0,.int .i64 0,.int .i32 0,.slice none 0 0,.int .i64 0]) 88 underlying30 zaF rfl zaJ v xv xs ys rfl rfl hb.out.row (XD Zq zaJ hW.out) (WA hI.out) h5.out hb.out.old.size ?_;intro v' w6 hi ht hp;obtain⟨va2,vc2,hB⟩:=Ze (show w6.ownsRow _ _ _ _ _ _ from hi);obtain⟨l2,hE⟩:∃ z,(xs++ys).length=z:=⟨_,rfl⟩;rw[hE]at hB;subst hB;have hO:=hid hi;have hZ:=hid ht;have Hl:=hid hp;have hm:=hb.out.box.turn ht (Zn hb.out.row hb.out.box zaJ);have Hh:=hm.lt;have Hi:=hm.frozen;have Hj:=hm.cell 0;clear hi ht hp hm hE)
     exact hM.out (il-(j+1)) _ _ zaK ⟨j+1,_,_,rfl,zaK,(ZN rfl rfl zf0),hb.out.put hO.out hZ.out hI.out (by have:=hb.out.few;have:=hX.out;omega)⟩
    all_goals
     intro vs w5 hs hk _;revert hk;refine zs1 ?_;intro hk
    ·exact kH
    ·have hr:HeapIs w5 yq #[v,.int .i64 0,.int .i64 0,.int .i64 0,.slice none 0 0,.int .i32 0] 34:=hh.out.box.keep hs;have hc:=hr.cell 0;have hl:=hr.lt;clear hr;exact kH
    iterate 4
     ·exact kH
    ·obtain⟨hT,hS⟩:=h2.out w5 hs;exact kt
    ·clear hk;go_wp2_with fail
     refine (WS 0 y2 w5 zaJ h6.out).mono ?_;rintro e w6 ⟨rfl,ho⟩;go_wp2
     exact⟨_,rfl,rfl,ho⟩
    iterate 3
     ·exact kH
    ·obtain⟨hT,hS⟩:=h4.out w5 hs;exact kt
    ·exact kH
    ·have h9:=hL.out;exact kH
    ·clear hk;go_wp2_with fail
     refine (WR 0 (o+i) w5 zaJ hL.out).mono ?_;rintro e w6 ⟨rfl,ho⟩;go_wp2
     exact⟨_,rfl,rfl,ho⟩
    ·clear hk;go_wp2
     exact⟨_,rfl,⟨[YA 30 0 y2,YA 31 0 (o+i)],Nat.le_refl 2,Zbo (HeapIs.new _ _ _),fun y hy=>by
   rcases List.mem_cons.1 hy with hy|hy
   ·rw[hy];exact PlNew.laid (.inl rfl) zaJ hP.out HG.out.Sle
   ·rw[List.mem_singleton.1 hy];exact PlNew.laid (.inr rfl) zaJ h7.out HG.out.Sle⟩,(Since.refl _).alloc _⟩
  ·obtain rfl:il=j:=zaK
   exact jJ
theorem ZcR (wY:World) (mq xq rq pq yq:Nat) (params S:Int) (bs:List MBlkV) (BB boff n bc:Nat) (k:MBlkV) (OB ooff oc:Nat) (ow:List Int) (b:Nat) (v0:Value) (xs0:List PlV) (s:Nat) (ks:MBlkV) (c:Nat) (a0:Act) (w1:World) (Q0:Exit→Act→World→Prop) (hz:FrV [(2,.pointer (some ⟨mq,0,none⟩)),(4,.pointer (some ⟨rq,0,none⟩)),(6,.pointer (some ⟨pq,0,none⟩)),(7,.slice (some ⟨OB,ooff,none⟩) n oc),(10,.int .i64 b),(11,.pointer (some ⟨xq,0,none⟩)),(12,.pointer (some ⟨yq,0,none⟩)),(16,.int .i64 s),(17,.int .i64 (0:Nat))] a0)
  (hd:NvD mq xq params bs BB boff n bc k OB ooff oc ow wY) (hg:NvG params S bs n ow) (hw:bs[b]? = some k) (hc:bs[s]? = some ks) (h0:c≤40000) (ha:NvY S wY c yq v0 xs0 w1)
  (hQ:∀ a1 w2 v2 xs2,FrV [(2,.pointer (some ⟨mq,0,none⟩)),(4,.pointer (some ⟨rq,0,none⟩)),(6,.pointer (some ⟨pq,0,none⟩)),(7,.slice (some ⟨OB,ooff,none⟩) n oc),(10,.int .i64 b),(11,.pointer (some ⟨xq,0,none⟩)),(12,.pointer (some ⟨yq,0,none⟩)),(16,.int .i64 s)] a1→NvY S wY (c+54) yq v2 xs2 w2→Q0 .normal a1 w2):Code.wp prog (VCode [1,1,1,1,1,1,1,0,1,0,0,1,0,0,1,1,1,1,1,0,1,0,0,1,0,0,1]) Q0 a0 w1:=by
 obtain⟨u,hb,hu⟩:=ZK hz;obtain⟨g1,g2,s2,s4,s6,s7,s10,s11,s12,s16,s17,g3⟩:=hz;have e2:=hu 2 _ s2;have e4:=hu 4 _ s4;have e6:=hu 6 _ s6;have e7:=hu 7 _ s7;have e10:=hu 10 _ s10;have e11:=hu 11 _ s11;have e12:=hu 12 _ s12;have e16:=hu 16 _ s16;have e17:=hu 17 _ s17;rw[e2,e4,e6,e7,e10,e11,e12,e16,e17]at hb;subst hb;clear hu g1 g2 g3 e2 s2 e4 s4 e6 s6 e7 s7 e10 s10 e11 s11 e12 s12 e16 s16 e17 s17
 conv=>arg 2;whnf
 have HQ:=hid hQ;have HD:=hid hd;have HG:=hid hg;have hU:=hid hw;clear hQ hd hg hw;have hk:=HG.out.each ks (List.mem_of_getElem? hc);obtain⟨o,hv,hY,hF⟩:=HG.out.own s ks hc;have hT:=hid hv;have hD:s<n:=by have h9:=(List.getElem?_eq_some_iff.1 hc).1;rw[HG.out.len]at h9;exact h9
 have hZ:=HG.out.n9;have hS:=hid hk.1.phis;have hP:=hid hk.2.1.val;have hC:=hk.1.few;have hh:=hid (HD.out.blk hc);obtain⟨pa,pc,hn,_⟩:=RowIn.shape (show RowIn fpcells 2 YJ wY ks.phv ks.phis from hh.out.2.2.1);obtain⟨pl,hp⟩:∃ z,ks.phis.length=z:=⟨_,rfl⟩
 rw[hp]at hn hC hF;have hR:=hid hp;have hB:=hid hn;have h1:=hid hc;clear hv hk hn hp hc;go_wp2_with fail
 refine ZS (fun t ac wr=>∃ (i:Nat) (v:Value) (xs:List PlV),t=pl-i∧i≤pl∧FrV [(2,.pointer (some ⟨mq,0,none⟩)),(4,.pointer (some ⟨rq,0,none⟩)),(6,.pointer (some ⟨pq,0,none⟩)),(7,.slice (some ⟨OB,ooff,none⟩) n oc),(10,.int .i64 b),(11,.pointer (some ⟨xq,0,none⟩)),(12,.pointer (some ⟨yq,0,none⟩)),(16,.int .i64 s),(17,.int .i64 i)] ac∧NvY S wY (c+18*i) yq v xs wr) pl ⟨0,_,_,rfl,Nat.zero_le _,(ZN rfl rfl zf0),ha⟩ ?_
 ·clear ha;intro t a1 wr K hJ hK;have hV:=hid hK;clear hK;obtain⟨i,v,xs,rfl,hi,hf,ha⟩:=hJ;obtain⟨u,hb,hu⟩:=ZK hf;obtain⟨g1,g2,s2,s4,s6,s7,s10,s11,s12,s16,s17,g3⟩:=hf;have e2:=hu 2 _ s2;have e4:=hu 4 _ s4;have e6:=hu 6 _ s6;have e7:=hu 7 _ s7;have e10:=hu 10 _ s10;have e11:=hu 11 _ s11;have e12:=hu 12 _ s12;have e16:=hu 16 _ s16;have e17:=hu 17 _ s17;rw[e2,e4,e6,e7,e10,e11,e12,e16,e17]at hb;subst hb;clear hu g1 g2 g3 e2 s2 e4 s4 e6 s6 e7 s7 e10 s10 e11 s11 e12 s12 e16 s16 e17 s17;have he:=hid ha;have hs:=HD.out.keep ha.old;have hH:=hs.mbox.cell 1;have hG:=hs.mbox.lt;have hN:BB<wr.heap.size:=Nat.lt_of_lt_of_le hh.out.2.1 ha.old.size;have hL:wr.cell? ⟨BB,boff+s*7,none⟩=some (.slice pa pl pc):=by
   rw[ha.old.cell (p:=⟨BB,boff+s*7,none⟩) hh.out.2.1,←hB.out];exact hh.out.1 0 zaJ
  clear hs;by_cases hI:i<pl
  ·obtain⟨PB,poff,y,rfl,ht,hy,hA,hj⟩:=RowIn.at (show RowIn fpcells 2 YJ wY (.slice pa pl pc) ks.phis from by rw[←hB.out];exact hh.out.2.2.1) (by rw[hR.out];exact hI)
   obtain⟨dst,ins,inv⟩:=y;have hl:=List.mem_of_getElem? hy;obtain⟨_,hr,ho⟩:=hS.out _ hl;have hm:=hP.out _ hl;dsimp only at hr ho hm;obtain⟨ia,ic,hx,_⟩:=RowIn.shape (show RowIn prcells 2 (fun _ _=>True) wY inv ins from hj)
   obtain⟨il,hq⟩:∃ z,ins.length=z:=⟨_,rfl⟩
   rw[hq]at hx hr;subst hx;have hW:=zH (RowIn prcells 2 (fun _ _=>True) wY (.slice ia il ic) ins) hj;have hO:=zH (∀ y∈ins,0≤y.2∧y.2<S) (fun y h=>⟨(ho y h).2.1,hm y h⟩);have hX:=hid hq;have hE:wr.cell? ⟨PB,poff+i*2+1,none⟩=some (.slice ia il ic):=by
    rw[ha.old.cell (p:=⟨PB,poff+i*2+1,none⟩) ht];exact hA 1 zaJ
   have hM:PB<wr.heap.size:=Nat.lt_of_lt_of_le ht ha.old.size;clear hy hl ho hm hA hj ha ht hq;go_upto_block 14 with fail
   refine ZdJ wY mq xq rq pq yq params S bs BB boff n bc k OB ooff oc ow b v xs s i ia il ic ins o (c+18*i) _ _ _ (ZN rfl rfl zf0) HD.out HG.out hU.out hW.out hX.out hr hO.out ⟨hT.out,zaK,zaK⟩ hD zaK he.out ?_;clear hH hG hN hL hE hM he;intro a1 w2 v2 xs2 hf ha;obtain⟨u,hb,hu⟩:=ZK hf;obtain⟨g1,g2,s2,s4,s6,s7,s10,s11,s12,s16,s17,g3⟩:=hf;have e2:=hu 2 _ s2;have e4:=hu 4 _ s4;have e6:=hu 6 _ s6;have e7:=hu 7 _ s7;have e10:=hu 10 _ s10;have e11:=hu 11 _ s11;have e12:=hu 12 _ s12;have e16:=hu 16 _ s16;have e17:=hu 17 _ s17;rw[e2,e4,e6,e7,e10,e11,e12,e16,e17]at hb;subst hb;clear hu g1 g2 g3 e2 s2 e4 s4 e6 s6 e7 s7 e10 s10 e11 s11 e12 s12 e16 s16 e17 s17;have he:=hid ha;clear ha;go_wp2_with fail
   exact hV.out (pl-(i+1)) _ _ zaK ⟨i+1,_,_,rfl,zaK,(ZN rfl rfl zf0),he.out.more zaK⟩
  ·obtain rfl:pl=i:=zaK
   clear ha;go_wp2_with fail
   exact HQ.out _ _ v xs (ZN rfl rfl zf0) (he.out.more zaK)
theorem ZcQ (wY:World) (mq xq rq pq yq:Nat) (params S:Int) (bs:List MBlkV) (BB boff n bc:Nat) (k:MBlkV) (OB ooff oc:Nat) (ow:List Int) (b:Nat) (v0:Value) (xs0:List PlV) (c:Nat) (a0:Act) (w1:World) (Q0:Exit→Act→World→Prop) (hk:FrV [(2,.pointer (some ⟨mq,0,none⟩)),(4,.pointer (some ⟨rq,0,none⟩)),(6,.pointer (some ⟨pq,0,none⟩)),(7,.slice (some ⟨OB,ooff,none⟩) n oc),(10,.int .i64 b),(11,.pointer (some ⟨xq,0,none⟩)),(12,.pointer (some ⟨yq,0,none⟩)),(16,.int .i64 (0:Nat))] a0)
  (hd:NvD mq xq params bs BB boff n bc k OB ooff oc ow wY) (hg:NvG params S bs n ow) (hj:bs[b]? = some k) (hs:c≤30000) (ha:NvY S wY c yq v0 xs0 w1)
  (hQ:∀ a1 w2 v2 xs2,FrV [(2,.pointer (some ⟨mq,0,none⟩)),(4,.pointer (some ⟨rq,0,none⟩)),(6,.pointer (some ⟨pq,0,none⟩)),(7,.slice (some ⟨OB,ooff,none⟩) n oc),(10,.int .i64 b),(11,.pointer (some ⟨xq,0,none⟩)),(12,.pointer (some ⟨yq,0,none⟩))] a1→NvY S wY (c+486) yq v2 xs2 w2→Q0 .normal a1 w2):Code.wp prog (VCode [1,1,1,1,1,1,1,0,1,0,0,1,0,0,1,1,1,1,1,0,1]) Q0 a0 w1:=by
 obtain⟨u,hb,hu⟩:=ZK hk;obtain⟨g1,g2,s2,s4,s6,s7,s10,s11,s12,s16,g3⟩:=hk;have e2:=hu 2 _ s2;have e4:=hu 4 _ s4;have e6:=hu 6 _ s6;have e7:=hu 7 _ s7;have e10:=hu 10 _ s10;have e11:=hu 11 _ s11;have e12:=hu 12 _ s12;have e16:=hu 16 _ s16;rw[e2,e4,e6,e7,e10,e11,e12,e16]at hb;subst hb;clear hu g1 g2 g3 e2 s2 e4 s4 e6 s6 e7 s7 e10 s10 e11 s11 e12 s12 e16 s16
 conv=>arg 2;whnf
 have HQ:=hid hQ;have HD:=hid hd;have HG:=hid hg;have hp:=hid hj;clear hQ hd hg hj;have hr:=HG.out.n9;go_wp2_with fail
 refine ZS (fun t ac wr=>∃ (i:Nat) (v:Value) (xs:List PlV),t=n-i∧i≤n∧FrV [(2,.pointer (some ⟨mq,0,none⟩)),(4,.pointer (some ⟨rq,0,none⟩)),(6,.pointer (some ⟨pq,0,none⟩)),(7,.slice (some ⟨OB,ooff,none⟩) n oc),(10,.int .i64 b),(11,.pointer (some ⟨xq,0,none⟩)),(12,.pointer (some ⟨yq,0,none⟩)),(16,.int .i64 i)] ac∧NvY S wY (c+54*i) yq v xs wr) n ⟨0,_,_,rfl,Nat.zero_le _,(ZN rfl rfl zf0),ha⟩ ?_
 ·clear ha;intro t a1 wr K hJ hK;have hq:=hid hK;clear hK;obtain⟨i,v,xs,rfl,hi,hf,ha⟩:=hJ;obtain⟨u,hb,hu⟩:=ZK hf;obtain⟨g1,g2,s2,s4,s6,s7,s10,s11,s12,s16,g3⟩:=hf;have e2:=hu 2 _ s2;have e4:=hu 4 _ s4;have e6:=hu 6 _ s6;have e7:=hu 7 _ s7;have e10:=hu 10 _ s10;have e11:=hu 11 _ s11;have e12:=hu 12 _ s12;have e16:=hu 16 _ s16;rw[e2,e4,e6,e7,e10,e11,e12,e16]at hb;subst hb;clear hu g1 g2 g3 e2 s2 e4 s4 e6 s6 e7 s7 e10 s10 e11 s11 e12 s12 e16 s16;have hc:=hid ha;have he:=HD.out.keep ha.old;have hm:=he.mbox.cell 1;have hl:=he.mbox.lt;clear he ha;by_cases hn:i<n
  ·obtain⟨ks,hh⟩:∃ ks,bs[i]? = some ks:=⟨_,List.getElem?_eq_getElem (by rw[HG.out.len];exact hn)⟩
   have ho:=hid hh;clear hh;go_upto_block 12 with fail
   refine ZcR wY mq xq rq pq yq params S bs BB boff n bc k OB ooff oc ow b v xs i ks (c+54*i) _ _ _ (ZN rfl rfl zf0) HD.out HG.out hp.out ho.out zaK hc.out ?_;clear hm hl hc;intro a1 w2 v2 xs2 hf ha;obtain⟨u,hb,hu⟩:=ZK hf;obtain⟨g1,g2,s2,s4,s6,s7,s10,s11,s12,s16,g3⟩:=hf;have e2:=hu 2 _ s2;have e4:=hu 4 _ s4;have e6:=hu 6 _ s6;have e7:=hu 7 _ s7;have e10:=hu 10 _ s10;have e11:=hu 11 _ s11;have e12:=hu 12 _ s12;have e16:=hu 16 _ s16;rw[e2,e4,e6,e7,e10,e11,e12,e16]at hb;subst hb;clear hu g1 g2 g3 e2 s2 e4 s4 e6 s6 e7 s7 e10 s10 e11 s11 e12 s12 e16 s16;have hc:=hid ha;clear ha;go_wp2_with fail
   exact hq.out (n-(i+1)) _ _ zaK ⟨i+1,_,_,rfl,zaK,(ZN rfl rfl zf0),hc.out.more zaK⟩
  ·obtain rfl:n=i:=zaK
   go_wp2_with fail
   exact HQ.out _ _ v xs (ZN rfl rfl zf0) (hc.out.more zaK)
def GivesNew (w:World) (l:List Int) (e:Ending) (w':World):Prop:=∃ v,e=.returned v∧Zd w' v l∧Since w w'∧∀ q,v.ownBlock=some q→w.heap.size≤q∧q<w'.heap.size
theorem Xl {w w':World} {l : List Int} {v : Value} (h:Yo w l (.returned v) w') (hn:∀ q,v.ownBlock=some q→w.heap.size≤q∧q<w'.heap.size):GivesNew w l (.returned v) w':=by
 obtain⟨v',e,h1,h2⟩:=h
 cases e
 exact⟨v,rfl,h1,h2,hn⟩
theorem ZbQ (e:ZY) (w:World) (ht:∃ a n c,e.tov=.slice a n c):Calls prog 70 #[ev e] w (GivesNew w (needs e)):=by
 obtain⟨ta,tn,tc,hb⟩:=ht;obtain⟨op,a,b,tl,tov,imm⟩:=e;dsimp only at hb;subst hb;unfold ev needs;dsimp only;by_cases g2:op=2
 ·subst g2;exact zJ
 by_cases g6:op=6
 ·subst g6;exact zJ
 have n2:(op==2)=false:=by simpa using g2
 have n6:(op==6)=false:=by simpa using g6
 by_cases g7:op=7
 ·subst g7;by_cases ha:0≤a
  ·exact zJ
  ·rw[if_neg zaK,if_neg zaK];have hd:decide (0≤a)=false:=decide_eq_false ha;go_enter func70,ntmps70
   go_wp2
   go_ret
   exact Xl (ZP ((Since.refl _).alloc _)) (by intro q hq;cases hq)
 rw[if_neg zaK];have n7:(op==7)=false:=by simpa using g7
 clear g2 g6 g7;by_cases h3:3≤op
 ·by_cases h5:op≤5
  ·rw[if_pos ⟨h3,h5⟩];rcases (show op=3∨op=4∨op=5 by omega) with rfl|rfl|rfl;all_goals
    go_enter func70,ntmps70
    go_wp2
    go_ret
    exact Xl (Zk ((Since.refl _).alloc _) [a,b] _ zaL rfl (show 2≤maxLen from by decide) rfl) (by intro q hq;have h9:=Option.some.inj hq;simp at h9;simp;omega)
  ·exact qg
 ·exact qg
def Apart (nv v:Value) (yq:Nat) (w:World):Prop:=∀ q,nv.ownBlock=some q→q≠yq∧v.ownBlock≠some q∧q<w.heap.size
theorem ZdK (wY:World) (mq xq rq pq yq:Nat) (params S:Int) (bs:List MBlkV) (BB boff n bc:Nat) (k:MBlkV) (OB ooff oc:Nat) (ow:List Int) (b:Nat) (v0:Value) (xs0:List PlV) (la:Option Addr) (ll lc:Nat) (l:List Int) (c:Nat) (a0:Act) (w1:World) (Q0:Exit→Act→World→Prop) (hL:FrV [(2,.pointer (some ⟨mq,0,none⟩)),(4,.pointer (some ⟨rq,0,none⟩)),(6,.pointer (some ⟨pq,0,none⟩)),(7,.slice (some ⟨OB,ooff,none⟩) n oc),(10,.int .i64 b),(11,.pointer (some ⟨xq,0,none⟩)),(12,.pointer (some ⟨yq,0,none⟩)),(20,.slice la ll lc),(21,.int .i64 (0:Nat))] a0)
  (hd:NvD mq xq params bs BB boff n bc k OB ooff oc ow wY) (hg:NvG params S bs n ow) (hI:bs[b]? = some k) (hG:l.length=ll) (He:ll≤2) (hF:∀ r∈l,0≤r∧r<S) (hh:Zy .i64 w1 (.slice la ll lc) l) (ha:Apart (.slice la ll lc) v0 yq w1) (Hi:c≤50000) (he:NvY S wY c yq v0 xs0 w1)
  (hQ:∀ a1 w2 v2 xs2,FrV [(2,.pointer (some ⟨mq,0,none⟩)),(4,.pointer (some ⟨rq,0,none⟩)),(6,.pointer (some ⟨pq,0,none⟩)),(7,.slice (some ⟨OB,ooff,none⟩) n oc),(10,.int .i64 b),(11,.pointer (some ⟨xq,0,none⟩)),(12,.pointer (some ⟨yq,0,none⟩)),(20,.slice la ll lc)] a1→NvY S wY (c+2) yq v2 xs2 w2→Q0 .normal a1 w2):Code.wp prog (VCode [1,1,1,1,1,1,1,0,1,0,0,1,0,0,1,1,1,1,1,1,1,0,1]) Q0 a0 w1:=by
 obtain⟨u,hi,hu⟩:=ZK hL;obtain⟨g1,g2,s2,s4,s6,s7,s10,s11,s12,s20,s21,g3⟩:=hL;have e2:=hu 2 _ s2;have e4:=hu 4 _ s4;have e6:=hu 6 _ s6;have e7:=hu 7 _ s7;have e10:=hu 10 _ s10;have e11:=hu 11 _ s11;have e12:=hu 12 _ s12;have e20:=hu 20 _ s20;have e21:=hu 21 _ s21;rw[e2,e4,e6,e7,e10,e11,e12,e20,e21]at hi;subst hi;clear hu g1 g2 g3 e2 s2 e4 s4 e6 s6 e7 s7 e10 s10 e11 s11 e12 s12 e20 s20 e21 s21
 conv=>arg 2;whnf
 have HQ:=hid hQ;have HD:=hid hd;have HG:=hid hg;have Hn:=hid hI;clear hQ hd hg hI;have h8:=hid hG;have h0:=hid hF;have Hf:=HG.out.n9;have Hm:=HG.out.Sle;clear hG hF;go_wp2_with fail
 refine ZS (fun t ac wr=>∃ (j:Nat) (v:Value) (xs:List PlV),t=ll-j∧j≤ll∧FrV [(2,.pointer (some ⟨mq,0,none⟩)),(4,.pointer (some ⟨rq,0,none⟩)),(6,.pointer (some ⟨pq,0,none⟩)),(7,.slice (some ⟨OB,ooff,none⟩) n oc),(10,.int .i64 b),(11,.pointer (some ⟨xq,0,none⟩)),(12,.pointer (some ⟨yq,0,none⟩)),(20,.slice la ll lc),(21,.int .i64 j)] ac∧NvY S wY (c+j) yq v xs wr∧Zy .i64 wr (.slice la ll lc) l∧Apart (.slice la ll lc) v yq wr) ll ⟨0,_,_,rfl,Nat.zero_le _,(ZN rfl rfl zf0),he,hh,ha⟩ ?_
 ·clear he hh ha;intro t a1 wr K hJ hK;have Hb:=hid hK;clear hK;obtain⟨j,v,xs,rfl,hj,hf,he,hh,ha⟩:=hJ;obtain⟨u,hi,hu⟩:=ZK hf;obtain⟨g1,g2,s2,s4,s6,s7,s10,s11,s12,s20,s21,g3⟩:=hf;have e2:=hu 2 _ s2;have e4:=hu 4 _ s4;have e6:=hu 6 _ s6;have e7:=hu 7 _ s7;have e10:=hu 10 _ s10;have e11:=hu 11 _ s11;have e12:=hu 12 _ s12;have e20:=hu 20 _ s20;have e21:=hu 21 _ s21;rw[e2,e4,e6,e7,e10,e11,e12,e20,e21]at hi;subst hi;clear hu g1 g2 g3 e2 s2 e4 s4 e6 s6 e7 s7 e10 s10 e11 s11 e12 s12 e20 s20 e21 s21;have hp:=hid he;have hO:=hid hh;have hn:=hid ha;clear he hh ha;by_cases hW:j<ll
  ·obtain⟨r,hr⟩:∃ r,l[j]? = some r:=⟨_,List.getElem?_eq_getElem (by rw[h8.out];exact hW)⟩
   obtain⟨LB,loff,rfl,hx,hM⟩:=YI hO.out hr;have hU:=h0.out r (List.mem_of_getElem? hr);have h6:=hid (fun (w5:World) (hs:Since wr w5)=>show w5.cell? ⟨LB,loff+j,none⟩=some (.int .i64 r)∧LB<w5.heap.size from⟨by rw[hs.cell (p:=⟨LB,loff+j,none⟩) hx];exact hM,Nat.lt_of_lt_of_le hx hs.size⟩)
   have hP:=zH (0≤(j:Int)∧(j:Int)<4) zaK;have Ha:=zH (0≤r∧r<100000) zaK;have hS:=zH (0≤r∧r<S) zaK;have Hc:=zH (c+j≤100000) zaK;clear hr hU;go_upto_region 44 with fail
   clear hx hM;refine Zh 9 rfl zaC zaC zaC zaJ
    [Is (.pointer (some ⟨yq,0,none⟩)),Is v,Is (.int .i64 j),Is (.slice (some ⟨LB,loff,none⟩) ll lc),Is (.int .i64 j),Is (.pointer (some ⟨LB,loff+j,none⟩)),Is (.int .i64 r),Is (.agg #[.int .i64 30,.int .i64 j,.int .i64 0,.int .i64 0,.int .i64 0,.int .i64 0,.int .i32 r,.slice none 0 0,.int .i64 (-1)]),GoodRow wY.heap.size S 1]
    kQ ⟨?_,?_,?_,?_,?_,?_,?_,?_,?_,trivial⟩ ?_
   rotate_right
   ·intro vs w5 hs hk;revert hk;refine zs0 ?_;intro hk
    obtain⟨ys,hC,hB,hD⟩:GoodRow wY.heap.size S 1 (vs 8) w5:=by exact hk.2.2.2.2.2.2.2.2.1
    generalize vs 8=xv at *;have hZ:=hid hs;have hA:=zH (Apart (.slice (some ⟨LB,loff,none⟩) ll lc) v yq w5) (fun q hq=>⟨(hn.out q hq).1,(hn.out q hq).2.1,Nat.lt_of_lt_of_le (hn.out q hq).2.2 hs.size⟩);have hb:=hid (hp.out.keep hs);have hY:=hid hC;have hX:=hid hB;have hN:=hid hD;have h9:=zH (xs.length+ys.length≤1000000) (by have:=hp.out.few;have:=Hc.out;omega);clear hk hs hC hB hD;go_wp2_with (refine Z3 (base:=wY.heap.size) plcells 9 Zq zaJ rfl _ _ 30 rfl 38 (.agg #[.int .i64 0,.int .i64 0,.int .i64 0,.int .i64 0,.int .i64 0,.int .i64 0,.int .i32 0,.slice none 0 0,.int .i64 0]) 88 underlying30 zaF rfl zaJ v xv xs ys rfl rfl hb.out.row (XD Zq zaJ hX.out) (WA hN.out) h9.out hb.out.old.size ?_;intro v' w6 hm ht hv;obtain⟨va2,vc2,hE⟩:=Ze (show w6.ownsRow _ _ _ _ _ _ from hm);obtain⟨l2,hH⟩:∃ z,(xs++ys).length=z:=⟨_,rfl⟩;rw[hH]at hE;subst hE;have hR:=hid hm;have hz:=hid ht;have h7:=hid hv;have ho:=hb.out.box.turn ht (Zn hb.out.row hb.out.box zaJ);have Hj:=ho.lt;have Hk:=ho.frozen;have Hl:=ho.cell 0;clear hm ht hv ho hH)
    have ha:Apart (.slice (some ⟨LB,loff,none⟩) ll lc) (.slice va2 l2 vc2) yq (w6.setCell ⟨yq,0,none⟩ (.slice va2 l2 vc2)):=fun q hq=>by
     obtain⟨h1,h2,h3⟩:=hA.out q hq;have h5:w5.heap.size≤w6.heap.size:=hz.out.size;refine⟨h1,fun e=>?_,by show q<(w6.setCell _ _).heap.size;simp[World.setCell];omega⟩;rcases h7.out q e with h4|h4
     ·exact h2 h4
     ·omega
    have hV:Zy .i64 (w6.setCell ⟨yq,0,none⟩ (.slice va2 l2 vc2)) (.slice (some ⟨LB,loff,none⟩) ll lc) l:=by
     have h1:=Vn (hO.out.keep hZ.out) hz.out fun _ q hq e=>(hA.out q hq).2.1 e
     exact Vn h1 ((Zb.refl (fun q=>q=yq) w6).setCell (p:=⟨yq,0,none⟩) rfl _) fun _ q hq e=>(hA.out q hq).1 e
    exact Hb.out (ll-(j+1)) _ _ zaK ⟨j+1,_,_,rfl,zaK,(ZN rfl rfl zf0),hb.out.put hR.out hz.out hN.out (by have:=hb.out.few;have:=hY.out;omega),hV,ha⟩
   all_goals
    intro vs w5 hs hk _;revert hk;refine zs1 ?_;intro hk
   ·exact kH
   ·have hw:HeapIs w5 yq #[v,.int .i64 0,.int .i64 0,.int .i64 0,.slice none 0 0,.int .i32 0] 34:=hp.out.box.keep hs;have hc:=hw.cell 0;have hl:=hw.lt;clear hw;exact kH
   iterate 4
    ·exact kH
   ·obtain⟨Hh,Hg⟩:=h6.out w5 hs;exact kt
   ·clear hk;go_wp2_with fail
    refine (WS j r w5 hP.out Ha.out).mono ?_;rintro e w6 ⟨rfl,hT⟩;go_wp2
    exact⟨_,rfl,rfl,hT⟩
   ·clear hk;go_wp2
    exact⟨_,rfl,⟨[YA 30 j r],Nat.le_refl 1,Zea (HeapIs.new _ _ _),fun y hy=>by rw[List.mem_singleton.1 hy];exact PlNew.laid (.inl rfl) hP.out hS.out HG.out.Sle⟩,(Since.refl _).alloc _⟩
  ·obtain rfl:ll=j:=zaK
   go_wp2_with fail
   exact HQ.out _ _ v xs (ZN rfl rfl zf0) (hp.out.more zaK)
structure BlkNew (B:Nat) (S:Int) (n:Nat) (w:World) (x:Zx):Prop where
 ins:OwnRow plcells 9 38 B w x.insv x.ins
 each:∀ y∈x.ins,PlNew B S w y
 goals:w.ownsRow B 3 1 x.fin.tov x.fin.to.length (x.fin.to.map (Value.int .i64))
 fin:JT n x.fin
section
variable {B B' n:Nat} {S : Int} {w w':World} {x : Zx} {T : Nat→Prop}
theorem BlkNew.keep (h:BlkNew B S n w x) (s:Since w w'):BlkNew B S n w' x:=⟨h.ins.keep s,fun y hy=>(h.each y hy).keep s,Zv h.goals s,h.fin⟩
theorem BlkNew.low (h:BlkNew B S n w x) (hb:B'≤B):BlkNew B' S n w x:=⟨XX h.ins hb,fun y hy=>(h.each y hy).base hb,XX h.goals hb,h.fin⟩
theorem PlNew.turned {y : PlV} {U : TypeId} (h:PlNew B S w y) (t:Zb T w w') (k:Kin w U T) (h2:3≠U):PlNew B S w' y:=
 ⟨Zg h.args t (k.apart h.args h2),h.good,h.src⟩
theorem BlkNew.turn {U : TypeId} (h:BlkNew B S n w x) (t:Zb T w w') (k:Kin w U T) (h1:38≠U) (h2:3≠U):BlkNew B S n w' x:=
 ⟨Zg h.ins t (k.apart h.ins h1),fun y hy=>(h.each y hy).turned t k h2,Zg h.goals t (k.apart h.goals h2),h.fin⟩
end
structure NvS (w0:World) (mq rq pq:Nat) (params kk S:Int) (bs:List MBlkV) (BB boff n bc OB ooff oc:Nat) (ow:List Int) (b:Nat) (bks:List Zx) (bkv:Value) (w:World):Prop where
 mbox:HeapIs w mq #[.int .i64 params,.slice (some ⟨BB,boff,none⟩) n bc] 101
 out:HeapIs w pq #[.int .i64 params,.int .i64 kk,.int .i64 S,bkv] 27
 res:HeapIs w rq #[.int .i64 0,.int .i64 0,.int .i64 0,.slice none 0 0] 27
 own:∃ c,w.ownsRow w0.heap.size 3 1 (.slice (some ⟨OB,ooff,none⟩) n oc) c (ow.map (Value.int .i64))∧ow.length=c
 old:Since w0 w
 low:w0.heap.size≤pq∧w0.heap.size≤rq∧rq≠pq
 row:OwnRow blcells 6 34 w0.heap.size w bkv bks
 each:∀ x∈bks,BlkNew w0.heap.size S n w x
 len:bks.length=b
 total:insSum bks≤498*b+7*Xs (bs.take b)
section
variable {w0 w w2 w3 w6:World} {mq rq pq BB boff n bc OB ooff oc b:Nat} {params kk S:Int} {bs:List MBlkV} {ow:List Int} {bks:List Zx} {bkv v':Value} {T : Nat→Prop}
theorem NvS.keep (h:NvS w0 mq rq pq params kk S bs BB boff n bc OB ooff oc ow b bks bkv w) (s:Since w w2):NvS w0 mq rq pq params kk S bs BB boff n bc OB ooff oc ow b bks bkv w2:=by
 obtain⟨c,ho,hl⟩:=h.own;exact⟨h.mbox.keep s,h.out.keep s,h.res.keep s,⟨c,Zv ho s,hl⟩,h.old.trans s,h.low,h.row.keep s,fun x hx=>(h.each x hx).keep s,h.len,h.total⟩
theorem NvS.turnY {cs:Array Value} {yq:Nat} (h:NvS w0 mq rq pq params kk S bs BB boff n bc OB ooff oc ow b bks bkv w) (hy:HeapIs w yq cs 34) (t:Zb (fun q=>q=yq) w w2) (hl:w0.heap.size≤yq) (ha:¬ bkv.ownBlock=some yq):NvS w0 mq rq pq params kk S bs BB boff n bc OB ooff oc ow b bks bkv w2:=by
 obtain⟨c,ho,hb⟩:=h.own;have k:=Kin.box hy;exact⟨h.mbox.turn t (k.heap h.mbox zaJ),h.out.turn t (k.heap h.out zaJ),h.res.turn t (k.heap h.res zaJ),⟨c,Zg ho t (k.apart ho zaJ),hb⟩,t.toSince h.old fun q hq e=>by omega,h.low,Zg h.row t fun q hq e=>ha (e ▸ hq),fun x hx=>(h.each x hx).turn t k zaJ zaJ,h.len,h.total⟩
theorem NvS.next {y : Zx} {k : MBlkV} (h:NvS w0 mq rq pq params kk S bs BB boff n bc OB ooff oc ow b bks bkv w) (hk:bs[b]? = some k) (ha:OwnRow blcells 6 34 w0.heap.size w2 v' (bks++[y])) (t:Zb (fun q=>bkv.ownBlock=some q) w w2) (hy:BlkNew w0.heap.size S n w y) (hl:y.ins.length≤498+7*k.ins.length) :
  NvS w0 mq rq pq params kk S bs BB boff n bc OB ooff oc ow (b+1) (bks++[y]) v' (w2.setCell ⟨pq,3,none⟩ v'):=by
 obtain⟨c,ho,hd⟩:=h.own;have k1:=Kin.row (show w.ownsRow _ _ _ _ _ _ from h.row);have hm:=h.mbox.turn t (k1.heap h.mbox zaJ);have hp:=h.out.turn t (k1.heap h.out zaJ);have hr:=h.res.turn t (k1.heap h.res zaJ);have hc:=Zg ho t (k1.apart ho zaJ);have t2:Zb (fun q=>q=pq) w2 (w2.setCell ⟨pq,3,none⟩ v'):=(Zb.refl (fun q=>q=pq) w2).setCell (p:=⟨pq,3,none⟩) rfl _;have k2:=Kin.box hp;have hb:∀ x,BlkNew w0.heap.size S n w x→BlkNew w0.heap.size S n (w2.setCell ⟨pq,3,none⟩ v') x:=fun x hx=>(hx.turn t k1 zaJ zaJ).turn t2 k2 zaJ zaJ
 refine⟨hm.turn t2 (k2.heap hm zaJ),hp.set 3 v',hr.turn t2 h.low.2.2,⟨c,Zg hc t2 (k2.apart hc zaJ),hd⟩,t2.toSince (t.toSince h.old fun q hq e=>by have:=(World.ownsRow.lt (show w.ownsRow _ _ _ _ _ _ from h.row) q e).1;omega) fun q hq e=>by have:=h.low;omega,h.low,Zg ha t2 (k2.apart (show w2.ownsRow _ _ _ _ _ _ from ha) zaJ),fun x hx=>?_,by rw[List.length_append,h.len];rfl,?_⟩
 ·rcases List.mem_append.1 hx with hx|hx
  ·exact hb x (h.each x hx)
  ·rw[List.mem_singleton.1 hx];exact hb y hy
 ·have h1:=h.total;have h2:Xs (bs.take (b+1))=Xs (bs.take b)+k.ins.length:=by unfold Xs;rw[List.take_add_one,hk];simp
  have h3:insSum (bks++[y])=insSum bks+y.ins.length:=by unfold insSum;simp
  omega
end
def JN (e:ZY) (tv:Value):ZY:=⟨e.op,if e.op=7∧(needs e).length=0 then -1 else 0,if 1<(needs e).length then 1 else 0,e.to,tv,e.imm⟩
theorem ZbV {n : Nat} {e : ZY} {tv:Value} (h:Vh n e):JT n (JN e tv):=by
 have ho:=h.op;refine⟨?_,?_,h.goals⟩
 ·show Ya e=true
  unfold Ya;rcases ho with ⟨h1,h2,_⟩|⟨h1,h2,_⟩|⟨h1,h2,_⟩|⟨h1,h2⟩|⟨h1,h2,_⟩
  ·rw[if_pos h1,h2];rfl
  ·rw[if_neg zaK,if_pos zaK,h2];rfl
  ·rw[if_neg zaK,if_neg zaK,if_pos h1,Bool.and_eq_true,decide_eq_true_eq,decide_eq_true_eq];exact h2
  iterate 2
   ·rw[if_neg zaK,if_neg zaK,if_neg zaK,if_pos zaK,h2];rfl
 ·unfold ZL;rw[List.any_eq_false];intro r hr;have he:(r=0∧(e.op=7→True))∨(r=1∧e.op≠7):=by
   have hd:(JN e tv).op=e.op:=rfl;have ha:(JN e tv).a=if e.op=7∧(needs e).length=0 then -1 else 0:=rfl;have hb:(JN e tv).b=if 1<(needs e).length then 1 else 0:=rfl;unfold needs at hr;rw[hd]at hr;split at hr
   ·rw[List.mem_singleton]at hr
    rename_i hc
    subst hr;rw[ha]at hc ⊢;split
    ·rename_i h1
     rw[if_pos h1]at hc;omega
    ·exact .inl ⟨rfl,fun _=>trivial⟩
   ·split at hr
    ·rename_i hc
     simp only[List.mem_cons,List.not_mem_nil,or_false]at hr;rcases hr with hr|hr
     ·rw[hr,ha,if_neg zaK];exact .inl ⟨rfl,fun _=>trivial⟩
     ·rw[hr,hb];split
      ·exact .inr ⟨rfl,zaK⟩
      ·exact .inl ⟨rfl,fun _=>trivial⟩
    ·cases hr
  have hd:(JN e tv).op=e.op:=rfl;rw[hd];simp only[Bool.or_eq_true,Bool.and_eq_true,beq_iff_eq,decide_eq_true_eq];omega
def Zd5 (w8:World) (yq:Nat) (v:Value) (op ea eb:Int) (tv:Value) (imm:Int) (wx:World):Prop:=HeapIs wx yq #[v,.int .i64 op,.int .i64 ea,.int .i64 eb,tv,.int .i32 imm] 34∧Zb (fun q=>q=yq) w8 wx
def NvE (w0:World) (op imm:Int) (l:List Int) (v:Value) (w:World):Prop:=∃ a c,v=.agg #[.int .i64 op,.int .i64 0,.int .i64 0,.slice a l.length c,.int .i32 imm]∧Yx 3 w0 l (.slice a l.length c) w
theorem NvE.stable (w0:World) (op imm:Int) (l:List Int):ZH (NvE w0 op imm l):=fun v w w' ⟨a,c,h1,h2⟩ s=>⟨a,c,h1,Zv h2 s⟩
end Go.Proofs.YtimpddecdodddaaGreat
