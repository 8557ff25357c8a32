import Derived.Test.YtimpddecdodddaaGreatSb43
namespace Go.Proofs.YtimpddecdodddaaGreat
open Go.RowKit Go.Lib
set_option linter.unusedVariables false
set_option maxHeartbeats 4000000
set_option maxRecDepth 1000000
theorem qi {P:Prop} (h:P:=by
 subst hd;clear hj;go_wp2_with fail
 exact hF.out _ _ (Met.intro (hG.out _ _ ⟨(ZI rfl rfl (Za rfl (Za rfl (Za rfl (Za rfl (Za rfl (Za rfl (Za rfl (Za rfl (Za rfl (Zh _))))))))))),rfl⟩))):P:=h
theorem jm {P:Prop} (h:P:=by
 have hl:=hn.lt;clear hn;go_wp2
 exact⟨_,rfl,rfl,.refl _⟩):P:=h
theorem ZbP (w0:World) (mq rq pq:Nat) (params kk S:Int) (bs:List ZC) (BB boff n bc OB ooff oc:Nat) (ow:List Int) (a0:Act) (w1:World) (Q0:Exit→Act→World→Prop) (HJ:FrV [(2,.pointer (some ⟨mq,0,none⟩)),(4,.pointer (some ⟨rq,0,none⟩)),(6,.pointer (some ⟨pq,0,none⟩)),(7,.slice (some ⟨OB,ooff,none⟩) n oc),(10,.int .i64 (0:Nat))] a0)
  (HK:RowIn mbcells 7 MBlkIn w0 (.slice (some ⟨BB,boff,none⟩) n bc) bs) (hg:NvG params S bs n ow) (hh:NvS w0 mq rq pq params kk S bs BB boff n bc OB ooff oc ow 0 [] (.slice none 0 0) w1)
  (hQ:∀ a1 w2 bks bkv,FrV [(2,.pointer (some ⟨mq,0,none⟩)),(4,.pointer (some ⟨rq,0,none⟩)),(6,.pointer (some ⟨pq,0,none⟩)),(7,.slice (some ⟨OB,ooff,none⟩) n oc)] a1→NvS w0 mq rq pq params kk S bs BB boff n bc OB ooff oc ow n bks bkv w2→Q0 .normal a1 w2):Code.wp Tryz.prog (VCode [1,1,1,1,1,1,1,0,1]) Q0 a0 w1:=by
 obtain⟨u,ha,hu⟩:=ZH HJ;obtain⟨g1,g2,s2,s4,s6,s7,s10,g3⟩:=HJ;have e2:=hu 2 _ s2;have e4:=hu 4 _ s4;have e6:=hu 6 _ s6;have e7:=hu 7 _ s7;have e10:=hu 10 _ s10;rw[e2,e4,e6,e7,e10]at ha;subst ha;clear hu g1 g2 g3 e2 s2 e4 s4 e6 s6 e7 s7 e10 s10
 conv=>arg 2;whnf
 have HQ:=hid hQ;have HW:=hid HK;have HG:=hid hg;have tX:=hg.n9;clear hQ HK hg;go_wp2_with fail
 refine ZO (fun t ac wr=>∃ (b:Nat) (bks:List ZD) (bkv:Value),t=n-b∧b≤n∧FrV [(2,.pointer (some ⟨mq,0,none⟩)),(4,.pointer (some ⟨rq,0,none⟩)),(6,.pointer (some ⟨pq,0,none⟩)),(7,.slice (some ⟨OB,ooff,none⟩) n oc),(10,.int .i64 b)] ac∧NvS w0 mq rq pq params kk S bs BB boff n bc OB ooff oc ow b bks bkv wr) n ⟨0,[],_,rfl,Nat.zero_le _,(ZI rfl rfl (Za rfl (Za rfl (Za rfl (Za rfl (Za rfl (Zh _))))))),hh⟩ ?_
 ·clear hh;intro t a1 wr K hJ hK;have tN:=hid hK;clear hK;obtain⟨b,bks,bkv,rfl,tY,hf,hh⟩:=hJ;obtain⟨u,ha,hu⟩:=ZH hf;obtain⟨g1,g2,s2,s4,s6,s7,s10,g3⟩:=hf;have e2:=hu 2 _ s2;have e4:=hu 4 _ s4;have e6:=hu 6 _ s6;have e7:=hu 7 _ s7;have e10:=hu 10 _ s10;rw[e2,e4,e6,e7,e10]at ha;subst ha;clear hu g1 g2 g3 e2 s2 e4 s4 e6 s6 e7 s7 e10 s10;have ht:=hid hh;have tm:=hh.mbox.cell 1;have hR:=hh.mbox.lt;clear hh;by_cases ts:b<n
  ·obtain⟨B1,o1,y,he,hB,hy,hC,hH⟩:=RowIn.at (RowIn.keep MBlkIn.keep HW.out ht.out.old) (show b<bs.length by rw[HG.out.len];exact ts)
   cases he
   have hO:=hid hy;have hW:=hid (HG.out.each y (List.mem_of_getElem? hy));obtain⟨phs,phv,ins,insv,⟨eop,ea,eb,eto,etov,eimm⟩⟩:=y;have tD:wr.cell? ⟨BB,boff+b*7,none⟩=some phv:=hC 0 kS;have tC:wr.cell? ⟨BB,boff+b*7+1,none⟩=some insv:=hC 1 kS;have tB:wr.cell? ⟨BB,boff+b*7+2,none⟩=some (.int .i64 eop):=hC 2 kS;have tA:wr.cell? ⟨BB,boff+b*7+3,none⟩=some (.int .i64 ea):=hC 3 kS;have tz:wr.cell? ⟨BB,boff+b*7+4,none⟩=some (.int .i64 eb):=hC 4 kS;have tw:wr.cell? ⟨BB,boff+b*7+5,none⟩=some etov:=hC 5 kS;have tu:wr.cell? ⟨BB,boff+b*7+6,none⟩=some (.int .i32 eimm):=hC 6 kS;obtain⟨pa,pc,HH,_⟩:=RowIn.shape (show RowIn fpcells 2 YD wr phv phs from hH.1);obtain⟨ia,ic,HI,_⟩:=RowIn.shape (show RowIn Z9 8 WH wr insv ins from hH.2.1);obtain⟨ta,tc,Hi⟩:=Zb hH.2.2;obtain⟨pl,Hk⟩:∃ z,phs.length=z:=⟨_,rfl⟩
   obtain⟨il,Hm⟩:∃ z,ins.length=z:=⟨_,rfl⟩
   obtain⟨tl,hL⟩:∃ z,eto.length=z:=⟨_,rfl⟩
   dsimp only at Hi;rw[Hk]at HH;rw[Hm]at HI;rw[hL]at Hi;subst HH;subst HI;subst Hi;have HV:=hid Hm;have h6:=hid hL;have tQ:tl≤65:=by
    have h9:=hW.out.1.fin.op;dsimp only at h9;rw[hL]at h9;omega
   have tR:il≤3600:=by have h9:=hW.out.2.2;dsimp only at h9;omega
   have H5:=zH (MBlkIn wr ⟨phs,.slice pa pl pc,ins,.slice ia il ic,⟨eop,ea,eb,eto,.slice ta tl tc,eimm⟩⟩) hH;clear hy hC hH Hk Hm hL;go_upto_block 4 with fail
   obtain⟨xq,Hg⟩:∃ z,z=wr.heap.size:=⟨_,rfl⟩
   obtain⟨yq,Hc⟩:∃ z,z=wr.heap.size+1:=⟨_,rfl⟩
   obtain⟨wY,hS⟩:∃ z,z=wr.alloc (.cells #[.slice pa pl pc,.slice ia il ic,.int .i64 eop,.int .i64 ea,.int .i64 eb,.slice ta tl tc,.int .i32 eimm] 135):=⟨_,rfl⟩
   have HA:wY.heap.size=wr.heap.size+1:=by rw[hS];simp
   rw[←hS,←Hc,←Hg];have hU:=zH (Since wr wY) (by rw[hS];exact (Since.refl _).alloc _)
   have HT:=zH (Since w0 wY) (ht.out.old.trans hU.out);have hD:NvD mq xq params bs BB boff n bc ⟨phs,.slice pa pl pc,ins,.slice ia il ic,⟨eop,ea,eb,eto,.slice ta tl tc,eimm⟩⟩ OB ooff oc ow wY:=by
    obtain⟨c,ho,tt⟩:=ht.out.own;refine⟨ht.out.mbox.keep hU.out,RowIn.keep MBlkIn.keep HW.out HT.out,by rw[hS,Hg];exact HeapIs.new _ _ _,?_,MBlkIn.keep _ _ _ H5.out hU.out⟩;rw[←tt]at ho;exact (ZF ho).keep hU.out
   have HD:=hid hD;have Hz:NvY S wY 0 yq (.slice none 0 0) [] (wY.alloc (.cells #[.slice none 0 0,.int .i64 0,.int .i64 0,.int .i64 0,.slice none 0 0,.int .i32 0] 34)):=⟨by rw[Hc,←HA];exact HeapIs.new _ _ _,OwnRow.nil _ _ _ _ _,fun y hy=>(by cases hy),Nat.zero_le _,(Since.refl _).alloc _,kT⟩;have tG:=zH (w0.heap.size≤yq) (by have:=ht.out.old.size;omega);have tF:=zH (¬ bkv.ownBlock=some yq) (fun e=>by have:=(World.ownsRow.lt (show wr.ownsRow _ _ _ _ _ _ from ht.out.row) yq e).2;omega)
   have HY:=hid Hz;clear hS HA Hg Hc hD Hz tm hR tD tC tB tA tz tw tu hB;refine ZbM wY mq xq rq pq yq params S bs BB boff n bc ⟨phs,.slice pa pl pc,ins,.slice ia il ic,⟨eop,ea,eb,eto,.slice ta tl tc,eimm⟩⟩ OB ooff oc ow b _ _ _ _ _ (ZI rfl rfl (Za rfl (Za rfl (Za rfl (Za rfl (Za rfl (Za rfl (Za rfl (Za rfl (Zh _)))))))))) HD.out HG.out hO.out HY.out ?_;clear HY;intro a1 w2 v xs hf hh;obtain⟨u,ha,hu⟩:=ZH hf;obtain⟨g1,g2,s2,s4,s6,s7,s10,s11,s12,g3⟩:=hf;have e2:=hu 2 _ s2;have e4:=hu 4 _ s4;have e6:=hu 6 _ s6;have e7:=hu 7 _ s7;have e10:=hu 10 _ s10;have e11:=hu 11 _ s11;have e12:=hu 12 _ s12;rw[e2,e4,e6,e7,e10,e11,e12]at ha;subst ha;clear hu g1 g2 g3 e2 s2 e4 s4 e6 s6 e7 s7 e10 s10 e11 s11 e12 s12;have HY:=hid hh;clear hh;go_upto_block 6 with fail
   refine ZdB wY mq xq rq pq yq params S bs BB boff n bc ⟨phs,.slice pa pl pc,ins,.slice ia il ic,⟨eop,ea,eb,eto,.slice ta tl tc,eimm⟩⟩ OB ooff oc ow b _ _ _ _ _ (ZI rfl rfl (Za rfl (Za rfl (Za rfl (Za rfl (Za rfl (Za rfl (Za rfl (Za rfl (Zh _)))))))))) HD.out HG.out hO.out HY.out ?_;clear HY;intro a1 w3 v xs hf hh;obtain⟨u,ha,hu⟩:=ZH hf;obtain⟨g1,g2,s2,s4,s6,s7,s10,s11,s12,g3⟩:=hf;have e2:=hu 2 _ s2;have e4:=hu 4 _ s4;have e6:=hu 6 _ s6;have e7:=hu 7 _ s7;have e10:=hu 10 _ s10;have e11:=hu 11 _ s11;have e12:=hu 12 _ s12;rw[e2,e4,e6,e7,e10,e11,e12]at ha;subst ha;clear hu g1 g2 g3 e2 s2 e4 s4 e6 s6 e7 s7 e10 s10 e11 s11 e12 s12;have HY:=hid hh;clear hh;go_upto_block 8 with fail
   refine Zel wY mq xq rq pq yq params S bs BB boff n bc ⟨phs,.slice pa pl pc,ins,.slice ia il ic,⟨eop,ea,eb,eto,.slice ta tl tc,eimm⟩⟩ OB ooff oc ow b _ _ _ _ _ (ZI rfl rfl (Za rfl (Za rfl (Za rfl (Za rfl (Za rfl (Za rfl (Za rfl (Za rfl (Zh _)))))))))) HD.out HG.out hO.out HY.out ?_;clear HY;intro a1 w4 v xs hf hh;obtain⟨u,ha,hu⟩:=ZH hf;obtain⟨g1,g2,s2,s4,s6,s7,s10,s11,s12,g3⟩:=hf;have e2:=hu 2 _ s2;have e4:=hu 4 _ s4;have e6:=hu 6 _ s6;have e7:=hu 7 _ s7;have e10:=hu 10 _ s10;have e11:=hu 11 _ s11;have e12:=hu 12 _ s12;rw[e2,e4,e6,e7,e10,e11,e12]at ha;subst ha;clear hu g1 g2 g3 e2 s2 e4 s4 e6 s6 e7 s7 e10 s10 e11 s11 e12 s12;have HY:=zH (NvY S wY (10+7*il) yq v xs w4) (by have h9:=hh;dsimp only at h9;rw[HV.out]at h9;exact h9);have hm:=HD.out.mbox.keep hh.old;have tq:=hm.cell 1;have tp:=hm.lt;clear hh hm;go_upto_block 10 with fail
   clear tq tp;refine ZbN wY mq xq rq pq yq params S bs BB boff n bc ⟨phs,.slice pa pl pc,ins,.slice ia il ic,⟨eop,ea,eb,eto,.slice ta tl tc,eimm⟩⟩ OB ooff oc ow b _ _ (10+7*il) _ _ _ (ZI rfl rfl (Za rfl (Za rfl (Za rfl (Za rfl (Za rfl (Za rfl (Za rfl (Za rfl (Zh _)))))))))) HD.out HG.out hO.out kT HY.out ?_;clear HY;intro a1 w5 v xs hf hh;obtain⟨u,ha,hu⟩:=ZH hf;obtain⟨g1,g2,s2,s4,s6,s7,s10,s11,s12,g3⟩:=hf;have e2:=hu 2 _ s2;have e4:=hu 4 _ s4;have e6:=hu 6 _ s6;have e7:=hu 7 _ s7;have e10:=hu 10 _ s10;have e11:=hu 11 _ s11;have e12:=hu 12 _ s12;rw[e2,e4,e6,e7,e10,e11,e12]at ha;subst ha;clear hu g1 g2 g3 e2 s2 e4 s4 e6 s6 e7 s7 e10 s10 e11 s11 e12 s12;have HY:=hid hh;have hx:=HD.out.xbox.keep hh.old;have Hh:w5.cell? ⟨xq,2,none⟩=some (.int .i64 eop):=hx.cell 2;have tj:w5.cell? ⟨xq,3,none⟩=some (.int .i64 ea):=hx.cell 3;have ti:w5.cell? ⟨xq,4,none⟩=some (.int .i64 eb):=hx.cell 4;have th:w5.cell? ⟨xq,5,none⟩=some (.slice ta tl tc):=hx.cell 5
   have tg:w5.cell? ⟨xq,6,none⟩=some (.int .i32 eimm):=hx.cell 6;have hR:=hx.lt;clear hh hx;go_wp2_with fail
   refine (ZaQ ⟨eop,ea,eb,eto,.slice ta tl tc,eimm⟩ w5 ⟨_,_,_,rfl⟩).mono ?_;rintro e w6 ⟨nv,rfl,h3,HF,Hl⟩;have hV:=hid (QY hW.out.1.fin);have Ha:=hid hW.out.2.1.need;dsimp only at hV Ha;obtain⟨l,hl⟩:∃ z,needs ⟨eop,ea,eb,eto,.slice ta tl tc,eimm⟩=z:=⟨_,rfl⟩
   rw[hl]at hV h3 Ha;have HL:=hid hl;obtain⟨la,lc,hv⟩:=Zb h3;obtain⟨ll,hT⟩:∃ z,l.length=z:=⟨_,rfl⟩
   rw[hT]at hv;subst hv;have H3:ll≤2:=by rw[←hT];exact hV.out.2
   have tM:=hid hT;have tL:=zH ((needs ⟨eop,ea,eb,eto,.slice ta tl tc,eimm⟩).length=ll) (by rw[hl,hT]);have HZ:=hid (show Apart (.slice la ll lc) v yq w6 from fun q hq=>by
    have h1:=Hl q hq;have h2:=HY.out.box.lt;refine⟨kT,fun e=>?_,h1.2⟩;have:=(World.ownsRow.lt (show w5.ownsRow _ _ _ _ _ _ from HY.out.row) q e).2;omega)
   have HS:=hid (HY.out.keep HF);have HU:=hid h3;clear hl hT h3 Hl HF HY Hh tj ti th tg hR;go_upto_block 16 with fail
   refine ZcG wY mq xq rq pq yq params S bs BB boff n bc ⟨phs,.slice pa pl pc,ins,.slice ia il ic,⟨eop,ea,eb,eto,.slice ta tl tc,eimm⟩⟩ OB ooff oc ow b _ _ la ll lc l (10+7*il+486) _ _ _ (ZI rfl rfl (Za rfl (Za rfl (Za rfl (Za rfl (Za rfl (Za rfl (Za rfl (Za rfl (Za rfl (Zh _))))))))))) HD.out HG.out hO.out tM.out H3 (fun r hr=>⟨(hV.out.1 r hr).1,Ha.out r hr⟩) HU.out HZ.out kT HS.out ?_;clear HU HZ HS hV Ha;intro a1 w7 v xs8 hf hh;obtain⟨u,ha,hu⟩:=ZH hf;obtain⟨g1,g2,s2,s4,s6,s7,s10,s11,s12,s20,g3⟩:=hf;have e2:=hu 2 _ s2;have e4:=hu 4 _ s4;have e6:=hu 6 _ s6;have e7:=hu 7 _ s7;have e10:=hu 10 _ s10;have e11:=hu 11 _ s11;have e12:=hu 12 _ s12;have e20:=hu 20 _ s20;rw[e2,e4,e6,e7,e10,e11,e12,e20]at ha;subst ha;clear hu g1 g2 g3 e2 s2 e4 s4 e6 s6 e7 s7 e10 s10 e11 s11 e12 s12 e20 s20;obtain⟨va,vc,hv⟩:=OwnRow.shape hh.row;obtain⟨vl,HB⟩:∃ z,xs8.length=z:=⟨_,rfl⟩
   rw[HB]at hv;subst hv;have Hr:=hid hh;have h5:=zH (HeapIs w7 xq #[.slice pa pl pc,.slice ia il ic,.int .i64 eop,.int .i64 ea,.int .i64 eb,.slice ta tl tc,.int .i32 eimm] 135) (HD.out.xbox.keep hh.old);have tJ:=zH (Zt .i64 w7 (.slice ta tl tc) eto) ((HD.out.xin.2.2).keep hh.old);obtain⟨EA,HO⟩:∃ z:Int,z=if eop=7∧ll=0 then -1 else 0:=⟨_,rfl⟩
   obtain⟨EB,HN⟩:∃ z:Int,z=if 1<ll then 1 else 0:=⟨_,rfl⟩
   have Hv:=hid HO;have Hu:=hid HN;clear hh HB HO HN;go_upto_region 45 with fail
   refine Zg 12 rfl kK kK kK kS
    [Is (.pointer (some ⟨xq,2,none⟩)),Is (.pointer (some ⟨xq,2,none⟩)),Is (.int .i64 eop),IsNilOf 3 w7,Is (.pointer (some ⟨xq,2,none⟩)),Is (.pointer (some ⟨xq,5,none⟩)),Is (.slice ta tl tc),Yo 3 w7 eto,Is (.pointer (some ⟨xq,2,none⟩)),Is (.pointer (some ⟨xq,6,none⟩)),Is (.int .i32 eimm),NvE w7 eop eimm eto]
    (by repeat (first | exact trivial | refine⟨Is.stable _,?_⟩ | refine⟨IsNilOf.stable _ _,?_⟩ | refine⟨Yo.stable _ _ _,?_⟩ | refine⟨NvE.stable _ _ _ _,?_⟩)) ⟨?_,?_,?_,?_,?_,?_,?_,?_,?_,?_,?_,?_,trivial⟩ ?_
   rotate_right
   ·intro vs w8 hs hk;simp only[List.take,List.drop,putAll,Act.put,Zc,Ze,Is,List.setIfInBounds_toArray,List.set_cons_zero,List.set_cons_succ,Nat.reduceAdd]at hk ⊢;try simp only[hk]
    obtain⟨na,nc,HP,Hq⟩:NvE w7 eop eimm eto (vs 11) w8:=by exact hk.2.2.2.2.2.2.2.2.2.2.2.1
    simp only[HP];have hp:=hid (Hr.out.keep hs);have h4:=zH (HeapIs w8 xq #[.slice pa pl pc,.slice ia il ic,.int .i64 eop,.int .i64 ea,.int .i64 eb,.slice ta tl tc,.int .i32 eimm] 135) (h5.out.keep hs);have tK:=hid (ht.out.keep ((hU.out.trans Hr.out.old).trans hs));have Ht:=zH (w8.ownsRow wY.heap.size 3 1 (.slice na tl nc) tl (eto.map (Value.int .i64))) (by rw[←h6.out];exact Vw Hq Hr.out.old.size);have hi:=hp.out.box;have He:=hi.lt;have Hf:=hi.frozen;have tf:=hi.cell 1;have Hy:=hi.cell 2;have Hx:=hi.cell 3;have te:=hi.cell 4;have td:=hi.cell 5;rw[h6.out];clear hk hs HP Hq hi
    go_upto_if 221 with fail
    clear He Hf tf Hy Hx te td;obtain⟨wE,hY⟩:∃ z,z=((((w8.setCell ⟨yq,1,none⟩ (.int .i64 eop)).setCell ⟨yq,2,none⟩ (.int .i64 0)).setCell ⟨yq,3,none⟩ (.int .i64 0)).setCell ⟨yq,4,none⟩ (.slice na tl nc)).setCell ⟨yq,5,none⟩ (.int .i32 eimm):=⟨_,rfl⟩
    have HE:=zH (Zde w8 yq (.slice va vl vc) eop 0 0 (.slice na tl nc) eimm wE) ⟨by rw[hY];exact ((((hp.out.box.set 1 _).set 2 _).set 3 _).set 4 _).set 5 _,by rw[hY];exact (((((Turn.refl (fun q=>q=yq) w8).setCell (p:=⟨yq,1,none⟩) rfl _).setCell (p:=⟨yq,2,none⟩) rfl _).setCell (p:=⟨yq,3,none⟩) rfl _).setCell (p:=⟨yq,4,none⟩) rfl _).setCell (p:=⟨yq,5,none⟩) rfl _⟩;rw[←hY];clear hY;refine wp_cut (fun a9 wz=>FrV [(2,.pointer (some ⟨mq,0,none⟩)),(4,.pointer (some ⟨rq,0,none⟩)),(6,.pointer (some ⟨pq,0,none⟩)),(7,.slice (some ⟨OB,ooff,none⟩) n oc),(10,.int .i64 b),(11,.pointer (some ⟨xq,0,none⟩)),(12,.pointer (some ⟨yq,0,none⟩)),(20,.slice la ll lc)] a9∧Zde w8 yq (.slice va vl vc) eop 0 EB (.slice na tl nc) eimm wz) ?_ ?_
    case refine_2 =>
     intro J K' hJ hE;have hG:=hid hJ;have hF:=hid hE;clear hJ hE;have hi:=HE.out.1;have He:=hi.lt;have Hf:=hi.frozen;have Hx:=hi.cell 3;clear hi;by_cases h1:1<ll
     ·go_wp2_with fail
      refine hF.out _ _ (Met.intro (hG.out _ _ ⟨(ZI rfl rfl (Za rfl (Za rfl (Za rfl (Za rfl (Za rfl (Za rfl (Za rfl (Za rfl (Zh _)))))))))),?_⟩));rw[show EB=1 from by rw[Hu.out];exact if_pos h1]
      exact⟨HE.out.1.set 3 _,HE.out.2.setCell (p:=⟨yq,3,none⟩) rfl _⟩
     ·go_wp2_with fail
      refine hF.out _ _ (Met.intro (hG.out _ _ ⟨(ZI rfl rfl (Za rfl (Za rfl (Za rfl (Za rfl (Za rfl (Za rfl (Za rfl (Za rfl (Zh _)))))))))),?_⟩));rw[show EB=0 from by rw[Hu.out];exact if_neg h1]
      exact HE.out
    case refine_1 =>
     clear HE;intro a1 wc hA;obtain⟨hf,hcut⟩:=hA;obtain⟨u,ha,hu⟩:=ZH hf;obtain⟨g1,g2,s2,s4,s6,s7,s10,s11,s12,s20,g3⟩:=hf;have e2:=hu 2 _ s2;have e4:=hu 4 _ s4;have e6:=hu 6 _ s6;have e7:=hu 7 _ s7;have e10:=hu 10 _ s10;have e11:=hu 11 _ s11;have e12:=hu 12 _ s12;have e20:=hu 20 _ s20;rw[e2,e4,e6,e7,e10,e11,e12,e20]at ha;subst ha;clear hu g1 g2 g3 e2 s2 e4 s4 e6 s6 e7 s7 e10 s10 e11 s11 e12 s12 e20 s20;have hX:=hid hcut;have hI:=h4.out.turn hcut.2 (Yf h4.out hp.out.box kS);have Hh:=hI.cell 2;have hR:=hI.lt;have tH:=hid hI;clear hcut hI;obtain⟨bq,hN⟩:∃ z,(eop==7)=z:=⟨_,rfl⟩
     obtain⟨cq,hM⟩:∃ z,((ll:Int)==0)=z:=⟨_,rfl⟩
     obtain⟨dq,hj⟩:∃ z,(bq&&cq)=z:=⟨_,rfl⟩
     go_upto_region 48 with fail
     refine wp_cut (fun a9 wz=>FrV [(2,.pointer (some ⟨mq,0,none⟩)),(4,.pointer (some ⟨rq,0,none⟩)),(6,.pointer (some ⟨pq,0,none⟩)),(7,.slice (some ⟨OB,ooff,none⟩) n oc),(10,.int .i64 b),(11,.pointer (some ⟨xq,0,none⟩)),(12,.pointer (some ⟨yq,0,none⟩)),(20,.slice la ll lc),(232,.bool dq)] a9∧wz=wc) ?_ ?_
     case refine_2 =>
      intro J K' hJ hE;have hG:=hid hJ;have hF:=hid hE;clear hJ hE
      cases bq
      ·have hd:dq=false:=by rw[←hj];rfl
       exact qi
      ·have hd:dq=cq:=by rw[←hj];exact Bool.true_and cq
       exact qi
     intro a1 wc2 hA;obtain⟨hf,hw⟩:=hA;obtain⟨u,ha,hu⟩:=ZH hf;obtain⟨g1,g2,s2,s4,s6,s7,s10,s11,s12,s20,s232,g3⟩:=hf;have e2:=hu 2 _ s2;have e4:=hu 4 _ s4;have e6:=hu 6 _ s6;have e7:=hu 7 _ s7;have e10:=hu 10 _ s10;have e11:=hu 11 _ s11;have e12:=hu 12 _ s12;have e20:=hu 20 _ s20;have e232:=hu 232 _ s232;rw[e2,e4,e6,e7,e10,e11,e12,e20,e232]at ha;subst ha;clear hu g1 g2 g3 e2 s2 e4 s4 e6 s6 e7 s7 e10 s10 e11 s11 e12 s12 e20 s20 e232 s232;have e9:=hw.symm;clear hw;subst e9
     go_upto_if 232 with fail
     clear Hh hR;refine wp_cut (fun a9 wz=>FrV [(2,.pointer (some ⟨mq,0,none⟩)),(4,.pointer (some ⟨rq,0,none⟩)),(6,.pointer (some ⟨pq,0,none⟩)),(7,.slice (some ⟨OB,ooff,none⟩) n oc),(10,.int .i64 b),(11,.pointer (some ⟨xq,0,none⟩)),(12,.pointer (some ⟨yq,0,none⟩)),(20,.slice la ll lc)] a9∧Zde w8 yq (.slice va vl vc) eop EA EB (.slice na tl nc) eimm wz) ?_ ?_
     case refine_2 =>
      intro J K' hJ hE;have hG:=hid hJ;have hF:=hid hE;clear hJ hE;have hi:=hX.out.1;have He:=hi.lt;have Hf:=hi.frozen;have Hy:=hi.cell 2;clear hi
      cases dq
      ·have Hn:EA=0:=by
        rw[Hv.out,if_neg];rintro⟨e1,e2⟩;rw[←hN,←hM,e1,e2]at hj
        cases hj
       clear hN hM hj;go_wp2_with fail
       refine hF.out _ _ (Met.intro (hG.out _ _ ⟨(ZI rfl rfl (Za rfl (Za rfl (Za rfl (Za rfl (Za rfl (Za rfl (Za rfl (Za rfl (Zh _)))))))))),?_⟩));rw[Hn];exact hX.out
      ·have Hn:EA=-1:=by
        rw[Bool.and_eq_true]at hj;rw[hj.1]at hN;rw[hj.2]at hM;rw[Hv.out,if_pos ⟨by simpa using hN,by simpa using hM⟩]
       clear hN hM hj;go_wp2_with fail
       refine hF.out _ _ (Met.intro (hG.out _ _ ⟨(ZI rfl rfl (Za rfl (Za rfl (Za rfl (Za rfl (Za rfl (Za rfl (Za rfl (Za rfl (Zh _)))))))))),?_⟩));rw[Hn];exact⟨hX.out.1.set 2 _,hX.out.2.setCell (p:=⟨yq,2,none⟩) rfl _⟩
     case refine_1 =>
      clear hX tH hN hM hj;intro a1 wc hA;obtain⟨hf,hcut⟩:=hA;obtain⟨u,ha,hu⟩:=ZH hf;obtain⟨g1,g2,s2,s4,s6,s7,s10,s11,s12,s20,g3⟩:=hf;have e2:=hu 2 _ s2;have e4:=hu 4 _ s4;have e6:=hu 6 _ s6;have e7:=hu 7 _ s7;have e10:=hu 10 _ s10;have e11:=hu 11 _ s11;have e12:=hu 12 _ s12;have e20:=hu 20 _ s20;rw[e2,e4,e6,e7,e10,e11,e12,e20]at ha;subst ha;clear hu g1 g2 g3 e2 s2 e4 s4 e6 s6 e7 s7 e10 s10 e11 s11 e12 s12 e20 s20;have tE:=hid hcut.1;have tx:=hcut.2;have tZ:=hid hcut;clear hcut;have hI:=(h4.out.turn tx (Yf h4.out hp.out.box kS));have hZ:=tK.out.turnY hp.out.box tx tG.out tF.out;have tT:=hZ.out.cell 3;have Hk:=hZ.out.lt;have Hs:=hid hZ;have t0:=hid (Zj Ht.out tx fun q hq e=>Zm Ht.out hp.out.box kS (e ▸ hq))
      obtain⟨ba,bc2,HM⟩:=OwnRow.shape ht.out.row;obtain⟨bl,Ho⟩:∃ z,bks.length=z:=⟨_,rfl⟩
      rw[Ho]at HM;subst HM;have Hb:=hid Ho;have tI:=hid tx;clear hZ Ho hI tx;obtain⟨YB,Hp⟩:∃ z:ZD,z=⟨xs8,.slice va vl vc,⟨eop,EA,EB,eto,.slice na tl nc,eimm⟩⟩:=⟨_,rfl⟩
      have HX:=zH (blcells YB=[.slice va vl vc,.int .i64 eop,.int .i64 EA,.int .i64 EB,.slice na tl nc,.int .i32 eimm]) (by rw[Hp];rfl);have tP:=hid (show ∀ u∈blcells YB,u.oneCell'=true from by
       rw[HX.out];intro u hu;simp only[List.mem_cons,List.not_mem_nil,or_false]at hu;rcases hu with rfl | rfl | rfl | rfl | rfl | rfl<;>rfl)
      have HR:=hid Hp;have tS:bl≤9:=by have:=Hb.out;have:=ht.out.len;have:=HG.out.n9;omega
      have tO:=zH (w0.heap.size≤(wc.alloc (.cells #[.slice va vl vc,.int .i64 eop,.int .i64 EA,.int .i64 EB,.slice na tl nc,.int .i32 eimm] 34)).heap.size) (by have:=Hs.out.old.size;simp;omega);have H7:=zH (OwnRow blcells 6 34 w0.heap.size (wc.alloc (.cells #[.slice va vl vc,.int .i64 eop,.int .i64 EA,.int .i64 EB,.slice na tl nc,.int .i32 eimm] 34)) (.slice ba bl bc2) bks) (Hs.out.row.keep ((Since.refl _).alloc _));have h8:=zH (NvS w0 mq rq pq params kk S bs BB boff n bc OB ooff oc ow b bks (.slice ba bl bc2) (wc.alloc (.cells #[.slice va vl vc,.int .i64 eop,.int .i64 EA,.int .i64 EB,.slice na tl nc,.int .i32 eimm] 34))) (Hs.out.keep ((Since.refl _).alloc _));clear Hp;go_wp2_with (first | refine wpList_load_row rfl _ _ rfl yq rfl 34 _ (0,0) _ tE.out Tryz.underlying34 rfl kO ?_ | (refine ZL (base:=w0.heap.size) blcells 6 YE kS rfl _ _ 25 rfl 34 (.agg #[.slice none 0 0,.int .i64 0,.int .i64 0,.int .i64 0,.slice none 0 0,.int .i32 0]) 80 Tryz.underlying25 kO rfl (.slice ba bl bc2) bks YB wc.heap.size 1 34 rfl rfl H7.out (by rw[HX.out];exact ZV _ _) tP.out (by rw[Hb.out];unfold maxLen;omega) (by rw[Hb.out];omega) tO.out ?_;intro v' w10 hP Hj Hw;obtain⟨va2,vc2,HC⟩:=Zf (show w10.ownsRow _ _ _ _ _ _ from hP);rw[show (bks++[YB]).length=bl+1 from by rw[List.length_append,Hb.out];rfl]at HC;subst HC;have H8:=hid hP;have H6:=hid Hj;have h0:=h8.out.out.turn Hj (Zm h8.out.row h8.out.out kS);have tW:=h0.cell 3;have tU:=h0.lt;have tV:=h0.frozen;clear hP Hj Hw h0))
      have H9:BlkNew w0.heap.size S n (wc.alloc (.cells #[.slice va vl vc,.int .i64 eop,.int .i64 EA,.int .i64 EB,.slice na tl nc,.int .i32 eimm] 34)) YB:=by
       have k:=Kin.box hp.out.box;have tr:w0.heap.size≤wY.heap.size:=HT.out.size;have hb:BlkNew wY.heap.size S n w8 YB:=by
        rw[HR.out];refine⟨hp.out.row,hp.out.each,?_,?_⟩
        ·show w8.ownsRow wY.heap.size 3 1 (.slice na tl nc) eto.length (eto.map (Value.int .i64))
         rw[h6.out];exact Ht.out
        ·have h9:=Za0 (tv:=.slice na tl nc) hW.out.1.fin;unfold Jx at h9;rw[tL.out]at h9;rw[Hv.out,Hu.out];exact h9
       exact ((hb.low tr).turn tI.out k kS kS).keep ((Since.refl _).alloc _)
      have H4:YB.ins.length≤498+7*ins.length:=by rw[HR.out];have:=hp.out.few;have:=HV.out;show xs8.length≤_;omega
      exact tN.out (n-(b+1)) _ _ kT ⟨b+1,_,_,rfl,kT,(ZI rfl rfl (Za rfl (Za rfl (Za rfl (Za rfl (Za rfl (Zh _))))))),h8.out.next hO.out H8.out H6.out H9 H4⟩
   all_goals
    intro vs w8 hs hk _;simp only[List.take,putAll,Act.put,Zk,Ze,Is,List.setIfInBounds_toArray,List.set_cons_zero,List.set_cons_succ,Nat.reduceAdd]at hk ⊢;try simp only[hk]
   iterate 2
    ·exact jK
   ·have hn:HeapIs w8 xq #[_,_,_,_,_,_,_] 135:=h5.out.keep hs;have hc:=hn.cell 2;exact jm
   ·exact yK
   iterate 2
    ·exact jK
   ·have hn:HeapIs w8 xq #[_,_,_,_,_,_,_] 135:=h5.out.keep hs;have hc:=hn.cell 5;exact jm
   ·have hz:=hs.size;have H2:IsNilOf 3 w7 (vs 3) w8:=by exact hk.1
    have H0:=Ju (show Zt .i64 w8 (.slice ta tl tc) eto from tJ.out.keep hs)
    have hL:=h6.out;generalize vs 3=v5 at *;clear hk;refine Yt (w0:=w7) rfl _ _ 22 rfl 3 (.int .i64 0) 1 8 Tryz.underlying22 Tryz.info3 rfl kS kS v5 (.slice ta tl tc) eto.length (eto.map (Value.int .i64)) (by first | rfl | exact congrArg _ rfl) (by first | rfl | (rw[hL];rfl)) H2 H0 kU kT (fun u hu=>by obtain⟨z,_,rfl⟩:=List.mem_map.1 hu;rfl) hz ?_
    intro v' w3 H1 tn;go_wp2
    exact⟨_,rfl,H1,tn⟩
   iterate 2
    ·exact jK
   ·have hn:HeapIs w8 xq #[_,_,_,_,_,_,_] 135:=h5.out.keep hs;have hc:=hn.cell 6;exact jm
   ·have h7:Yo 3 w7 eto (vs 7) w8:=by exact hk.2.1
    obtain⟨na,nc,hv⟩:=Zf (show w8.ownsRow _ _ _ _ _ _ from h7);generalize vs 7=v7 at *;subst hv;have k2:=hk.1;have k10:=hk.2.2;try simp only[k2,k10]
    clear k2 k10;clear hk;go_wp2
    exact⟨_,rfl,⟨na,nc,rfl,h7⟩,.refl _⟩
  ·obtain rfl:n=b:=kT
   go_wp2_with fail
   exact HQ.out _ _ bks bkv (ZI rfl rfl (Za rfl (Za rfl (Za rfl (Za rfl (Zh _)))))) ht.out
end Go.Proofs.YtimpddecdodddaaGreat
