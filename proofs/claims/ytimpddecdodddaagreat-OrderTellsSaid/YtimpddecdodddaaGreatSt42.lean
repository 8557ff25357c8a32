import Derived.Test.YtimpddecdodddaaGreatSt41
namespace Go.Proofs.YtimpddecdodddaaGreat
open Go.Proofs.Tryz Go.RowKit Go.Lib
set_option linter.unusedVariables false
set_option maxHeartbeats 8000000
set_option maxRecDepth 1000000
theorem jm {P:Prop} (h:P:=by
 subst hd;clear hj;go_wp2_with fail
 exact hF.out _ _ (Met.intro (hG.out _ _ ⟨(ZN rfl rfl zf0),rfl⟩))):P:=h
theorem j3 {P:Prop} (h:P:=by
 have hl:=hn.lt;clear hn;go_wp2
 exact⟨_,rfl,rfl,.refl _⟩):P:=h
theorem ZcS (w0:World) (mq rq pq:Nat) (params kk S:Int) (bs:List MBlkV) (BB boff n bc OB ooff oc:Nat) (ow:List Int) (a0:Act) (w1:World) (Q0:Exit→Act→World→Prop) (HJ:FrV [(2,.pointer (some ⟨mq,0,none⟩)),(4,.pointer (some ⟨rq,0,none⟩)),(6,.pointer (some ⟨pq,0,none⟩)),(7,.slice (some ⟨OB,ooff,none⟩) n oc),(10,.int .i64 (0:Nat))] a0)
  (HK:RowIn mbcells 7 MBlkIn w0 (.slice (some ⟨BB,boff,none⟩) n bc) bs) (hg:NvG params S bs n ow) (hh:NvS w0 mq rq pq params kk S bs BB boff n bc OB ooff oc ow 0 [] (.slice none 0 0) w1)
  (hQ:∀ a1 w2 bks bkv,FrV [(2,.pointer (some ⟨mq,0,none⟩)),(4,.pointer (some ⟨rq,0,none⟩)),(6,.pointer (some ⟨pq,0,none⟩)),(7,.slice (some ⟨OB,ooff,none⟩) n oc)] a1→NvS w0 mq rq pq params kk S bs BB boff n bc OB ooff oc ow n bks bkv w2→Q0 .normal a1 w2):Code.wp prog (VCode [1,1,1,1,1,1,1,0,1]) Q0 a0 w1:=by
 obtain⟨u,ha,hu⟩:=ZK HJ;obtain⟨g1,g2,s2,s4,s6,s7,s10,g3⟩:=HJ;have e2:=hu 2 _ s2;have e4:=hu 4 _ s4;have e6:=hu 6 _ s6;have e7:=hu 7 _ s7;have e10:=hu 10 _ s10;rw[e2,e4,e6,e7,e10]at ha;subst ha;clear hu g1 g2 g3 e2 s2 e4 s4 e6 s6 e7 s7 e10 s10
 conv=>arg 2;whnf
 have HQ:=hid hQ;have HW:=hid HK;have HG:=hid hg;have tY:=hg.n9;clear hQ HK hg;go_wp2_with fail
 refine ZS (fun t ac wr=>∃ (b:Nat) (bks:List Zx) (bkv:Value),t=n-b∧b≤n∧FrV [(2,.pointer (some ⟨mq,0,none⟩)),(4,.pointer (some ⟨rq,0,none⟩)),(6,.pointer (some ⟨pq,0,none⟩)),(7,.slice (some ⟨OB,ooff,none⟩) n oc),(10,.int .i64 b)] ac∧NvS w0 mq rq pq params kk S bs BB boff n bc OB ooff oc ow b bks bkv wr) n ⟨0,[],_,rfl,Nat.zero_le _,(ZN rfl rfl zf0),hh⟩ ?_
 ·clear hh;intro t a1 wr K hJ hK;have tO:=hid hK;clear hK;obtain⟨b,bks,bkv,rfl,tZ,hf,hh⟩:=hJ;obtain⟨u,ha,hu⟩:=ZK hf;obtain⟨g1,g2,s2,s4,s6,s7,s10,g3⟩:=hf;have e2:=hu 2 _ s2;have e4:=hu 4 _ s4;have e6:=hu 6 _ s6;have e7:=hu 7 _ s7;have e10:=hu 10 _ s10;rw[e2,e4,e6,e7,e10]at ha;subst ha;clear hu g1 g2 g3 e2 s2 e4 s4 e6 s6 e7 s7 e10 s10;have ht:=hid hh;have tn:=hh.mbox.cell 1;have hR:=hh.mbox.lt;clear hh;by_cases tt:b<n
  ·obtain⟨B1,o1,y,he,hB,hy,hC,hH⟩:=RowIn.at (RowIn.keep MBlkIn.keep HW.out ht.out.old) (show b<bs.length by rw[HG.out.len];exact tt)
   cases he
   have hO:=hid hy;have hW:=hid (HG.out.each y (List.mem_of_getElem? hy));obtain⟨phs,phv,ins,insv,⟨eop,ea,eb,eto,etov,eimm⟩⟩:=y;have tE:wr.cell? ⟨BB,boff+b*7,none⟩=some phv:=hC 0 zaJ;have tD:wr.cell? ⟨BB,boff+b*7+1,none⟩=some insv:=hC 1 zaJ;have tC:wr.cell? ⟨BB,boff+b*7+2,none⟩=some (.int .i64 eop):=hC 2 zaJ;have tB:wr.cell? ⟨BB,boff+b*7+3,none⟩=some (.int .i64 ea):=hC 3 zaJ;have tA:wr.cell? ⟨BB,boff+b*7+4,none⟩=some (.int .i64 eb):=hC 4 zaJ;have tz:wr.cell? ⟨BB,boff+b*7+5,none⟩=some etov:=hC 5 zaJ;have tw:wr.cell? ⟨BB,boff+b*7+6,none⟩=some (.int .i32 eimm):=hC 6 zaJ;obtain⟨pa,pc,HH,_⟩:=RowIn.shape (show RowIn fpcells 2 YJ wr phv phs from hH.1);obtain⟨ia,ic,HI,_⟩:=RowIn.shape (show RowIn Yd 8 WN wr insv ins from hH.2.1);obtain⟨ta,tc,Hi⟩:=Zc hH.2.2;obtain⟨pl,Hk⟩:∃ z,phs.length=z:=⟨_,rfl⟩
   obtain⟨il,Hm⟩:∃ z,ins.length=z:=⟨_,rfl⟩
   obtain⟨tl,hL⟩:∃ z,eto.length=z:=⟨_,rfl⟩
   dsimp only at Hi;rw[Hk]at HH;rw[Hm]at HI;rw[hL]at Hi;subst HH;subst HI;subst Hi;have HV:=hid Hm;have h6:=hid hL;have tR:tl≤65:=by
    have h9:=hW.out.1.fin.op;dsimp only at h9;rw[hL]at h9;omega
   have tS:il≤3600:=by have h9:=hW.out.2.2;dsimp only at h9;omega
   have H5:=zH (MBlkIn wr ⟨phs,.slice pa pl pc,ins,.slice ia il ic,⟨eop,ea,eb,eto,.slice ta tl tc,eimm⟩⟩) hH;clear hy hC hH Hk Hm hL;go_upto_block 4 with fail
   obtain⟨xq,Hg⟩:∃ z,z=wr.heap.size:=⟨_,rfl⟩
   obtain⟨yq,Hc⟩:∃ z,z=wr.heap.size+1:=⟨_,rfl⟩
   obtain⟨wY,hS⟩:∃ z,z=wr.alloc (.cells #[.slice pa pl pc,.slice ia il ic,.int .i64 eop,.int .i64 ea,.int .i64 eb,.slice ta tl tc,.int .i32 eimm] 135):=⟨_,rfl⟩
   have HA:wY.heap.size=wr.heap.size+1:=by rw[hS];simp
   rw[←hS,←Hc,←Hg];have hU:=zH (Since wr wY) (by rw[hS];exact (Since.refl _).alloc _)
   have HT:=zH (Since w0 wY) (ht.out.old.trans hU.out);have hD:NvD mq xq params bs BB boff n bc ⟨phs,.slice pa pl pc,ins,.slice ia il ic,⟨eop,ea,eb,eto,.slice ta tl tc,eimm⟩⟩ OB ooff oc ow wY:=by
    obtain⟨c,ho,tu⟩:=ht.out.own;refine⟨ht.out.mbox.keep hU.out,RowIn.keep MBlkIn.keep HW.out HT.out,by rw[hS,Hg];exact HeapIs.new _ _ _,?_,MBlkIn.keep _ _ _ H5.out hU.out⟩;rw[←tu]at ho;exact (ZB ho).keep hU.out
   have HD:=hid hD;have Hz:NvY S wY 0 yq (.slice none 0 0) [] (wY.alloc (.cells #[.slice none 0 0,.int .i64 0,.int .i64 0,.int .i64 0,.slice none 0 0,.int .i32 0] 34)):=⟨by rw[Hc,←HA];exact HeapIs.new _ _ _,OwnRow.nil _ _ _ _ _,fun y hy=>(by cases hy),Nat.zero_le _,(Since.refl _).alloc _,zaK⟩;have tH:=zH (w0.heap.size≤yq) (by have:=ht.out.old.size;omega);have tG:=zH (¬ bkv.ownBlock=some yq) (fun e=>by have:=(World.ownsRow.lt (show wr.ownsRow _ _ _ _ _ _ from ht.out.row) yq e).2;omega)
   have HY:=hid Hz;clear hS HA Hg Hc hD Hz tn hR tE tD tC tB tA tz tw hB;refine ZcP wY mq xq rq pq yq params S bs BB boff n bc ⟨phs,.slice pa pl pc,ins,.slice ia il ic,⟨eop,ea,eb,eto,.slice ta tl tc,eimm⟩⟩ OB ooff oc ow b _ _ _ _ _ (ZN rfl rfl zf0) HD.out HG.out hO.out HY.out ?_;clear HY;intro a1 w2 v xs hf hh;obtain⟨u,ha,hu⟩:=ZK hf;obtain⟨g1,g2,s2,s4,s6,s7,s10,s11,s12,g3⟩:=hf;have e2:=hu 2 _ s2;have e4:=hu 4 _ s4;have e6:=hu 6 _ s6;have e7:=hu 7 _ s7;have e10:=hu 10 _ s10;have e11:=hu 11 _ s11;have e12:=hu 12 _ s12;rw[e2,e4,e6,e7,e10,e11,e12]at ha;subst ha;clear hu g1 g2 g3 e2 s2 e4 s4 e6 s6 e7 s7 e10 s10 e11 s11 e12 s12;have HY:=hid hh;clear hh;go_upto_block 6 with fail
   refine Zep wY mq xq rq pq yq params S bs BB boff n bc ⟨phs,.slice pa pl pc,ins,.slice ia il ic,⟨eop,ea,eb,eto,.slice ta tl tc,eimm⟩⟩ OB ooff oc ow b _ _ _ _ _ (ZN rfl rfl zf0) HD.out HG.out hO.out HY.out ?_;clear HY;intro a1 w3 v xs hf hh;obtain⟨u,ha,hu⟩:=ZK hf;obtain⟨g1,g2,s2,s4,s6,s7,s10,s11,s12,g3⟩:=hf;have e2:=hu 2 _ s2;have e4:=hu 4 _ s4;have e6:=hu 6 _ s6;have e7:=hu 7 _ s7;have e10:=hu 10 _ s10;have e11:=hu 11 _ s11;have e12:=hu 12 _ s12;rw[e2,e4,e6,e7,e10,e11,e12]at ha;subst ha;clear hu g1 g2 g3 e2 s2 e4 s4 e6 s6 e7 s7 e10 s10 e11 s11 e12 s12;have HY:=hid hh;clear hh;go_upto_block 8 with fail
   refine Ze1 wY mq xq rq pq yq params S bs BB boff n bc ⟨phs,.slice pa pl pc,ins,.slice ia il ic,⟨eop,ea,eb,eto,.slice ta tl tc,eimm⟩⟩ OB ooff oc ow b _ _ _ _ _ (ZN rfl rfl zf0) HD.out HG.out hO.out HY.out ?_;clear HY;intro a1 w4 v xs hf hh;obtain⟨u,ha,hu⟩:=ZK hf;obtain⟨g1,g2,s2,s4,s6,s7,s10,s11,s12,g3⟩:=hf;have e2:=hu 2 _ s2;have e4:=hu 4 _ s4;have e6:=hu 6 _ s6;have e7:=hu 7 _ s7;have e10:=hu 10 _ s10;have e11:=hu 11 _ s11;have e12:=hu 12 _ s12;rw[e2,e4,e6,e7,e10,e11,e12]at ha;subst ha;clear hu g1 g2 g3 e2 s2 e4 s4 e6 s6 e7 s7 e10 s10 e11 s11 e12 s12;have HY:=zH (NvY S wY (10+7*il) yq v xs w4) (by have h9:=hh;dsimp only at h9;rw[HV.out]at h9;exact h9);have hm:=HD.out.mbox.keep hh.old;have tr:=hm.cell 1;have tq:=hm.lt;clear hh hm;go_upto_block 10 with fail
   clear tr tq;refine ZcQ wY mq xq rq pq yq params S bs BB boff n bc ⟨phs,.slice pa pl pc,ins,.slice ia il ic,⟨eop,ea,eb,eto,.slice ta tl tc,eimm⟩⟩ OB ooff oc ow b _ _ (10+7*il) _ _ _ (ZN rfl rfl zf0) HD.out HG.out hO.out zaK HY.out ?_;clear HY;intro a1 w5 v xs hf hh;obtain⟨u,ha,hu⟩:=ZK hf;obtain⟨g1,g2,s2,s4,s6,s7,s10,s11,s12,g3⟩:=hf;have e2:=hu 2 _ s2;have e4:=hu 4 _ s4;have e6:=hu 6 _ s6;have e7:=hu 7 _ s7;have e10:=hu 10 _ s10;have e11:=hu 11 _ s11;have e12:=hu 12 _ s12;rw[e2,e4,e6,e7,e10,e11,e12]at ha;subst ha;clear hu g1 g2 g3 e2 s2 e4 s4 e6 s6 e7 s7 e10 s10 e11 s11 e12 s12;have HY:=hid hh;have hx:=HD.out.xbox.keep hh.old;have Hh:w5.cell? ⟨xq,2,none⟩=some (.int .i64 eop):=hx.cell 2;have tm:w5.cell? ⟨xq,3,none⟩=some (.int .i64 ea):=hx.cell 3;have tj:w5.cell? ⟨xq,4,none⟩=some (.int .i64 eb):=hx.cell 4;have ti:w5.cell? ⟨xq,5,none⟩=some (.slice ta tl tc):=hx.cell 5
   have th:w5.cell? ⟨xq,6,none⟩=some (.int .i32 eimm):=hx.cell 6;have hR:=hx.lt;clear hh hx;go_wp2_with fail
   refine (ZbQ ⟨eop,ea,eb,eto,.slice ta tl tc,eimm⟩ w5 ⟨_,_,_,rfl⟩).mono ?_;rintro e w6 ⟨nv,rfl,h3,HF,Hl⟩;have hV:=hid (ZaE hW.out.1.fin);have Ha:=hid hW.out.2.1.need;dsimp only at hV Ha;obtain⟨l,hl⟩:∃ z,needs ⟨eop,ea,eb,eto,.slice ta tl tc,eimm⟩=z:=⟨_,rfl⟩
   rw[hl]at hV h3 Ha;have HL:=hid hl;obtain⟨la,lc,hv⟩:=Zc h3;obtain⟨ll,hT⟩:∃ z,l.length=z:=⟨_,rfl⟩
   rw[hT]at hv;subst hv;have H3:ll≤2:=by rw[←hT];exact hV.out.2
   have tN:=hid hT;have tM:=zH ((needs ⟨eop,ea,eb,eto,.slice ta tl tc,eimm⟩).length=ll) (by rw[hl,hT]);have HZ:=hid (show Apart (.slice la ll lc) v yq w6 from fun q hq=>by
    have h1:=Hl q hq;have h2:=HY.out.box.lt;refine⟨zaK,fun e=>?_,h1.2⟩;have:=(World.ownsRow.lt (show w5.ownsRow _ _ _ _ _ _ from HY.out.row) q e).2;omega)
   have HS:=hid (HY.out.keep HF);have HU:=hid h3;clear hl hT h3 Hl HF HY Hh tm tj ti th hR;go_upto_block 16 with fail
   refine ZdK wY mq xq rq pq yq params S bs BB boff n bc ⟨phs,.slice pa pl pc,ins,.slice ia il ic,⟨eop,ea,eb,eto,.slice ta tl tc,eimm⟩⟩ OB ooff oc ow b _ _ la ll lc l (10+7*il+486) _ _ _ (ZN rfl rfl zf0) HD.out HG.out hO.out tN.out H3 (fun r hr=>⟨(hV.out.1 r hr).1,Ha.out r hr⟩) HU.out HZ.out zaK HS.out ?_;clear HU HZ HS hV Ha;intro a1 w7 v xs8 hf hh;obtain⟨u,ha,hu⟩:=ZK hf;obtain⟨g1,g2,s2,s4,s6,s7,s10,s11,s12,s20,g3⟩:=hf;have e2:=hu 2 _ s2;have e4:=hu 4 _ s4;have e6:=hu 6 _ s6;have e7:=hu 7 _ s7;have e10:=hu 10 _ s10;have e11:=hu 11 _ s11;have e12:=hu 12 _ s12;have e20:=hu 20 _ s20;rw[e2,e4,e6,e7,e10,e11,e12,e20]at ha;subst ha;clear hu g1 g2 g3 e2 s2 e4 s4 e6 s6 e7 s7 e10 s10 e11 s11 e12 s12 e20 s20;obtain⟨va,vc,hv⟩:=OwnRow.shape hh.row;obtain⟨vl,HB⟩:∃ z,xs8.length=z:=⟨_,rfl⟩
   rw[HB]at hv;subst hv;have Hr:=hid hh;have h5:=zH (HeapIs w7 xq #[.slice pa pl pc,.slice ia il ic,.int .i64 eop,.int .i64 ea,.int .i64 eb,.slice ta tl tc,.int .i32 eimm] 135) (HD.out.xbox.keep hh.old);have tK:=zH (Zy .i64 w7 (.slice ta tl tc) eto) ((HD.out.xin.2.2).keep hh.old);obtain⟨EA,HO⟩:∃ z:Int,z=if eop=7∧ll=0 then -1 else 0:=⟨_,rfl⟩
   obtain⟨EB,HN⟩:∃ z:Int,z=if 1<ll then 1 else 0:=⟨_,rfl⟩
   have Hv:=hid HO;have Hu:=hid HN;clear hh HB HO HN;go_upto_region 45 with fail
   refine Zh 12 rfl zaC zaC zaC zaJ
    [Is (.pointer (some ⟨xq,2,none⟩)),Is (.pointer (some ⟨xq,2,none⟩)),Is (.int .i64 eop),IsNilOf 3 w7,Is (.pointer (some ⟨xq,2,none⟩)),Is (.pointer (some ⟨xq,5,none⟩)),Is (.slice ta tl tc),Yx 3 w7 eto,Is (.pointer (some ⟨xq,2,none⟩)),Is (.pointer (some ⟨xq,6,none⟩)),Is (.int .i32 eimm),NvE w7 eop eimm eto]
    (by repeat (first | exact trivial | refine⟨Is.stable _,?_⟩ | refine⟨IsNilOf.stable _ _,?_⟩ | refine⟨Yx.stable _ _ _,?_⟩ | refine⟨NvE.stable _ _ _ _,?_⟩)) ⟨?_,?_,?_,?_,?_,?_,?_,?_,?_,?_,?_,?_,trivial⟩ ?_
   rotate_right
   ·intro vs w8 hs hk;revert hk;refine zs0 ?_;intro hk
    obtain⟨na,nc,HP,Hq⟩:NvE w7 eop eimm eto (vs 11) w8:=by exact hk.2.2.2.2.2.2.2.2.2.2.2.1
    simp only[HP];have hp:=hid (Hr.out.keep hs);have h4:=zH (HeapIs w8 xq #[.slice pa pl pc,.slice ia il ic,.int .i64 eop,.int .i64 ea,.int .i64 eb,.slice ta tl tc,.int .i32 eimm] 135) (h5.out.keep hs);have tL:=hid (ht.out.keep ((hU.out.trans Hr.out.old).trans hs));have Ht:=zH (w8.ownsRow wY.heap.size 3 1 (.slice na tl nc) tl (eto.map (Value.int .i64))) (by rw[←h6.out];exact XX Hq Hr.out.old.size);have hi:=hp.out.box;have He:=hi.lt;have Hf:=hi.frozen;have tg:=hi.cell 1;have Hy:=hi.cell 2;have Hx:=hi.cell 3;have tf:=hi.cell 4;have td:=hi.cell 5;rw[h6.out];clear hk hs HP Hq hi
    go_upto_if 221 with fail
    clear He Hf tg Hy Hx tf td;obtain⟨wE,hY⟩:∃ z,z=((((w8.setCell ⟨yq,1,none⟩ (.int .i64 eop)).setCell ⟨yq,2,none⟩ (.int .i64 0)).setCell ⟨yq,3,none⟩ (.int .i64 0)).setCell ⟨yq,4,none⟩ (.slice na tl nc)).setCell ⟨yq,5,none⟩ (.int .i32 eimm):=⟨_,rfl⟩
    have HE:=zH (Zd5 w8 yq (.slice va vl vc) eop 0 0 (.slice na tl nc) eimm wE) ⟨by rw[hY];exact ((((hp.out.box.set 1 _).set 2 _).set 3 _).set 4 _).set 5 _,by rw[hY];exact (((((Zb.refl (fun q=>q=yq) w8).setCell (p:=⟨yq,1,none⟩) rfl _).setCell (p:=⟨yq,2,none⟩) rfl _).setCell (p:=⟨yq,3,none⟩) rfl _).setCell (p:=⟨yq,4,none⟩) rfl _).setCell (p:=⟨yq,5,none⟩) rfl _⟩;rw[←hY];clear hY;refine wp_cut (fun a9 wz=>FrV [(2,.pointer (some ⟨mq,0,none⟩)),(4,.pointer (some ⟨rq,0,none⟩)),(6,.pointer (some ⟨pq,0,none⟩)),(7,.slice (some ⟨OB,ooff,none⟩) n oc),(10,.int .i64 b),(11,.pointer (some ⟨xq,0,none⟩)),(12,.pointer (some ⟨yq,0,none⟩)),(20,.slice la ll lc)] a9∧Zd5 w8 yq (.slice va vl vc) eop 0 EB (.slice na tl nc) eimm wz) ?_ ?_
    case refine_2 =>
     intro J K' hJ hE;have hG:=hid hJ;have hF:=hid hE;clear hJ hE;have hi:=HE.out.1;have He:=hi.lt;have Hf:=hi.frozen;have Hx:=hi.cell 3;clear hi;by_cases h1:1<ll
     ·go_wp2_with fail
      refine hF.out _ _ (Met.intro (hG.out _ _ ⟨(ZN rfl rfl zf0),?_⟩));rw[show EB=1 from by rw[Hu.out];exact if_pos h1]
      exact⟨HE.out.1.set 3 _,HE.out.2.setCell (p:=⟨yq,3,none⟩) rfl _⟩
     ·go_wp2_with fail
      refine hF.out _ _ (Met.intro (hG.out _ _ ⟨(ZN rfl rfl zf0),?_⟩));rw[show EB=0 from by rw[Hu.out];exact if_neg h1]
      exact HE.out
    case refine_1 =>
     clear HE;intro a1 wc hA;obtain⟨hf,hcut⟩:=hA;obtain⟨u,ha,hu⟩:=ZK hf;obtain⟨g1,g2,s2,s4,s6,s7,s10,s11,s12,s20,g3⟩:=hf;have e2:=hu 2 _ s2;have e4:=hu 4 _ s4;have e6:=hu 6 _ s6;have e7:=hu 7 _ s7;have e10:=hu 10 _ s10;have e11:=hu 11 _ s11;have e12:=hu 12 _ s12;have e20:=hu 20 _ s20;rw[e2,e4,e6,e7,e10,e11,e12,e20]at ha;subst ha;clear hu g1 g2 g3 e2 s2 e4 s4 e6 s6 e7 s7 e10 s10 e11 s11 e12 s12 e20 s20;have hX:=hid hcut;have hI:=h4.out.turn hcut.2 (Yq h4.out hp.out.box zaJ);have Hh:=hI.cell 2;have hR:=hI.lt;have tI:=hid hI;clear hcut hI;obtain⟨bq,hN⟩:∃ z,(eop==7)=z:=⟨_,rfl⟩
     obtain⟨cq,hM⟩:∃ z,((ll:Int)==0)=z:=⟨_,rfl⟩
     obtain⟨dq,hj⟩:∃ z,(bq&&cq)=z:=⟨_,rfl⟩
     go_upto_region 48 with fail
     refine wp_cut (fun a9 wz=>FrV [(2,.pointer (some ⟨mq,0,none⟩)),(4,.pointer (some ⟨rq,0,none⟩)),(6,.pointer (some ⟨pq,0,none⟩)),(7,.slice (some ⟨OB,ooff,none⟩) n oc),(10,.int .i64 b),(11,.pointer (some ⟨xq,0,none⟩)),(12,.pointer (some ⟨yq,0,none⟩)),(20,.slice la ll lc),(232,.bool dq)] a9∧wz=wc) ?_ ?_
     case refine_2 =>
      intro J K' hJ hE;have hG:=hid hJ;have hF:=hid hE;clear hJ hE
      cases bq
      ·have hd:dq=false:=by rw[←hj];rfl
       exact jm
      ·have hd:dq=cq:=by rw[←hj];exact Bool.true_and cq
       exact jm
     intro a1 wc2 hA;obtain⟨hf,hw⟩:=hA;obtain⟨u,ha,hu⟩:=ZK hf;obtain⟨g1,g2,s2,s4,s6,s7,s10,s11,s12,s20,s232,g3⟩:=hf;have e2:=hu 2 _ s2;have e4:=hu 4 _ s4;have e6:=hu 6 _ s6;have e7:=hu 7 _ s7;have e10:=hu 10 _ s10;have e11:=hu 11 _ s11;have e12:=hu 12 _ s12;have e20:=hu 20 _ s20;have e232:=hu 232 _ s232;rw[e2,e4,e6,e7,e10,e11,e12,e20,e232]at ha;subst ha;clear hu g1 g2 g3 e2 s2 e4 s4 e6 s6 e7 s7 e10 s10 e11 s11 e12 s12 e20 s20 e232 s232;have e9:=hw.symm;clear hw;subst e9
     go_upto_if 232 with fail
     clear Hh hR;refine wp_cut (fun a9 wz=>FrV [(2,.pointer (some ⟨mq,0,none⟩)),(4,.pointer (some ⟨rq,0,none⟩)),(6,.pointer (some ⟨pq,0,none⟩)),(7,.slice (some ⟨OB,ooff,none⟩) n oc),(10,.int .i64 b),(11,.pointer (some ⟨xq,0,none⟩)),(12,.pointer (some ⟨yq,0,none⟩)),(20,.slice la ll lc)] a9∧Zd5 w8 yq (.slice va vl vc) eop EA EB (.slice na tl nc) eimm wz) ?_ ?_
     case refine_2 =>
      intro J K' hJ hE;have hG:=hid hJ;have hF:=hid hE;clear hJ hE;have hi:=hX.out.1;have He:=hi.lt;have Hf:=hi.frozen;have Hy:=hi.cell 2;clear hi
      cases dq
      ·have Hn:EA=0:=by
        rw[Hv.out,if_neg];rintro⟨e1,e2⟩;rw[←hN,←hM,e1,e2]at hj
        cases hj
       clear hN hM hj;go_wp2_with fail
       refine hF.out _ _ (Met.intro (hG.out _ _ ⟨(ZN rfl rfl zf0),?_⟩));rw[Hn];exact hX.out
      ·have Hn:EA=-1:=by
        rw[Bool.and_eq_true]at hj;rw[hj.1]at hN;rw[hj.2]at hM;rw[Hv.out,if_pos ⟨by simpa using hN,by simpa using hM⟩]
       clear hN hM hj;go_wp2_with fail
       refine hF.out _ _ (Met.intro (hG.out _ _ ⟨(ZN rfl rfl zf0),?_⟩));rw[Hn];exact⟨hX.out.1.set 2 _,hX.out.2.setCell (p:=⟨yq,2,none⟩) rfl _⟩
     case refine_1 =>
      clear hX tI hN hM hj;intro a1 wc hA;obtain⟨hf,hcut⟩:=hA;obtain⟨u,ha,hu⟩:=ZK hf;obtain⟨g1,g2,s2,s4,s6,s7,s10,s11,s12,s20,g3⟩:=hf;have e2:=hu 2 _ s2;have e4:=hu 4 _ s4;have e6:=hu 6 _ s6;have e7:=hu 7 _ s7;have e10:=hu 10 _ s10;have e11:=hu 11 _ s11;have e12:=hu 12 _ s12;have e20:=hu 20 _ s20;rw[e2,e4,e6,e7,e10,e11,e12,e20]at ha;subst ha;clear hu g1 g2 g3 e2 s2 e4 s4 e6 s6 e7 s7 e10 s10 e11 s11 e12 s12 e20 s20;have tF:=hid hcut.1;have tx:=hcut.2;have t0:=hid hcut;clear hcut;have hI:=(h4.out.turn tx (Yq h4.out hp.out.box zaJ));have hZ:=tL.out.turnY hp.out.box tx tH.out tG.out;have tU:=hZ.out.cell 3;have Hk:=hZ.out.lt;have Hs:=hid hZ;have t1:=hid (Zg Ht.out tx fun q hq e=>Zn Ht.out hp.out.box zaJ (e ▸ hq))
      obtain⟨ba,bc2,HM⟩:=OwnRow.shape ht.out.row;obtain⟨bl,Ho⟩:∃ z,bks.length=z:=⟨_,rfl⟩
      rw[Ho]at HM;subst HM;have Hb:=hid Ho;have tJ:=hid tx;clear hZ Ho hI tx;obtain⟨YB,Hp⟩:∃ z:Zx,z=⟨xs8,.slice va vl vc,⟨eop,EA,EB,eto,.slice na tl nc,eimm⟩⟩:=⟨_,rfl⟩
      have HX:=zH (blcells YB=[.slice va vl vc,.int .i64 eop,.int .i64 EA,.int .i64 EB,.slice na tl nc,.int .i32 eimm]) (by rw[Hp];rfl);have tQ:=hid (show ∀ u∈blcells YB,u.oneCell'=true from by
       rw[HX.out];intro u hu;simp only[List.mem_cons,List.not_mem_nil,or_false]at hu;rcases hu with rfl | rfl | rfl | rfl | rfl | rfl<;>rfl)
      have HR:=hid Hp;have tT:bl≤9:=by have:=Hb.out;have:=ht.out.len;have:=HG.out.n9;omega
      have tP:=zH (w0.heap.size≤(wc.alloc (.cells #[.slice va vl vc,.int .i64 eop,.int .i64 EA,.int .i64 EB,.slice na tl nc,.int .i32 eimm] 34)).heap.size) (by have:=Hs.out.old.size;simp;omega);have H7:=zH (OwnRow blcells 6 34 w0.heap.size (wc.alloc (.cells #[.slice va vl vc,.int .i64 eop,.int .i64 EA,.int .i64 EB,.slice na tl nc,.int .i32 eimm] 34)) (.slice ba bl bc2) bks) (Hs.out.row.keep ((Since.refl _).alloc _));have h8:=zH (NvS w0 mq rq pq params kk S bs BB boff n bc OB ooff oc ow b bks (.slice ba bl bc2) (wc.alloc (.cells #[.slice va vl vc,.int .i64 eop,.int .i64 EA,.int .i64 EB,.slice na tl nc,.int .i32 eimm] 34))) (Hs.out.keep ((Since.refl _).alloc _));clear Hp;go_wp2_with (first | refine wpList_load_row rfl _ _ rfl yq rfl 34 _ (0,0) _ tF.out underlying34 rfl zaF ?_ | (refine ZC (base:=w0.heap.size) blcells 6 Z5 zaJ rfl _ _ 25 rfl 34 (.agg #[.slice none 0 0,.int .i64 0,.int .i64 0,.int .i64 0,.slice none 0 0,.int .i32 0]) 80 underlying25 zaF rfl (.slice ba bl bc2) bks YB wc.heap.size 1 34 rfl rfl H7.out (by rw[HX.out];exact ZG _ _) tQ.out (by rw[Hb.out];unfold maxLen;omega) (by rw[Hb.out];omega) tP.out ?_;intro v' w10 hP Hj Hw;obtain⟨va2,vc2,HC⟩:=Ze (show w10.ownsRow _ _ _ _ _ _ from hP);rw[show (bks++[YB]).length=bl+1 from by rw[List.length_append,Hb.out];rfl]at HC;subst HC;have H8:=hid hP;have H6:=hid Hj;have h0:=h8.out.out.turn Hj (Zn h8.out.row h8.out.out zaJ);have tX:=h0.cell 3;have tV:=h0.lt;have tW:=h0.frozen;clear hP Hj Hw h0))
      have H9:BlkNew w0.heap.size S n (wc.alloc (.cells #[.slice va vl vc,.int .i64 eop,.int .i64 EA,.int .i64 EB,.slice na tl nc,.int .i32 eimm] 34)) YB:=by
       have k:=Kin.box hp.out.box;have ts:w0.heap.size≤wY.heap.size:=HT.out.size;have hb:BlkNew wY.heap.size S n w8 YB:=by
        rw[HR.out];refine⟨hp.out.row,hp.out.each,?_,?_⟩
        ·show w8.ownsRow wY.heap.size 3 1 (.slice na tl nc) eto.length (eto.map (Value.int .i64))
         rw[h6.out];exact Ht.out
        ·have h9:=ZbV (tv:=.slice na tl nc) hW.out.1.fin;unfold JN at h9;rw[tM.out]at h9;rw[Hv.out,Hu.out];exact h9
       exact ((hb.low ts).turn tJ.out k zaJ zaJ).keep ((Since.refl _).alloc _)
      have H4:YB.ins.length≤498+7*ins.length:=by rw[HR.out];have:=hp.out.few;have:=HV.out;show xs8.length≤_;omega
      exact tO.out (n-(b+1)) _ _ zaK ⟨b+1,_,_,rfl,zaK,(ZN rfl rfl zf0),h8.out.next hO.out H8.out H6.out H9 H4⟩
   all_goals
    intro vs w8 hs hk _;revert hk;refine zs1 ?_;intro hk
   iterate 2
    ·exact kH
   ·have hn:HeapIs w8 xq #[_,_,_,_,_,_,_] 135:=h5.out.keep hs;have hc:=hn.cell 2;exact j3
   ·exact jz
   iterate 2
    ·exact kH
   ·have hn:HeapIs w8 xq #[_,_,_,_,_,_,_] 135:=h5.out.keep hs;have hc:=hn.cell 5;exact j3
   ·have hz:=hs.size;have H2:IsNilOf 3 w7 (vs 3) w8:=by exact hk.1
    have H0:=VD (show Zy .i64 w8 (.slice ta tl tc) eto from tK.out.keep hs)
    have hL:=h6.out;generalize vs 3=v5 at *;clear hk;refine Z7 (w0:=w7) rfl _ _ 22 rfl 3 (.int .i64 0) 1 8 underlying22 Tryz.info3 rfl zaJ zaJ v5 (.slice ta tl tc) eto.length (eto.map (Value.int .i64)) (by first | rfl | exact congrArg _ rfl) (by first | rfl | (rw[hL];rfl)) H2 H0 zaL zaK (fun u hu=>by obtain⟨z,_,rfl⟩:=List.mem_map.1 hu;rfl) hz ?_
    intro v' w3 H1 tp;go_wp2
    exact⟨_,rfl,H1,tp⟩
   iterate 2
    ·exact kH
   ·have hn:HeapIs w8 xq #[_,_,_,_,_,_,_] 135:=h5.out.keep hs;have hc:=hn.cell 6;exact j3
   ·have h7:Yx 3 w7 eto (vs 7) w8:=by exact hk.2.1
    obtain⟨na,nc,hv⟩:=Ze (show w8.ownsRow _ _ _ _ _ _ from h7);generalize vs 7=v7 at *;subst hv;have k2:=hk.1;have k10:=hk.2.2;try simp only[k2,k10]
    clear k2 k10;clear hk;go_wp2
    exact⟨_,rfl,⟨na,nc,rfl,h7⟩,.refl _⟩
  ·obtain rfl:n=b:=zaK
   go_wp2_with fail
   exact HQ.out _ _ bks bkv (ZN rfl rfl zf0) ht.out
def psum7 (l:List MBlkV):Nat:=(l.map fun b=>b.phis.length).sum
theorem KI {l : List MBlkV} {j : Nat} {b : MBlkV} (h:l[j]? = some b):psum7 (l.take (j+1))=psum7 (l.take j)+b.phis.length:=by
 unfold psum7;exact kJ
theorem KH (l:List MBlkV) (j:Nat):psum7 (l.take j)≤psum7 l:=by
 unfold psum7
 exact jI
theorem ZcJ {l : List MBlkV} (h:∀ b∈l,b.phis.length≤3):psum7 l≤3*l.length:=by
 induction l with
 | nil=>exact Nat.le_refl _
 | cons b r ih =>
  have h1:=h b List.mem_cons_self;have h2:=ih fun x hx=>h x (List.mem_cons_of_mem _ hx)
  unfold psum7 at h2 ⊢;rw[List.map_cons,List.sum_cons,List.length_cons];omega
def owl (top:Int) (bs:List MBlkV) (i:Nat):List Int:=(List.range i).map fun j=>top+(psum7 (bs.take j):Int)
theorem ZdI (top:Int) (bs:List MBlkV) (i:Nat):owl top bs (i+1)=owl top bs i++[top+(psum7 (bs.take i):Int)]:=by unfold owl;rw[List.range_succ,List.map_append];rfl
theorem JL (top:Int) (bs:List MBlkV) (i:Nat):(owl top bs i).length=i:=by unfold owl;simp
theorem ZeX (top:Int) (bs:List MBlkV) {i j:Nat} (h:j<i):(owl top bs i)[j]? = some (top+(psum7 (bs.take j):Int)):=by
 unfold owl;rw[List.getElem?_map,List.getElem?_range h];rfl
structure NvH (w0:World) (mq rq pq:Nat) (params kk:Int) (BB boff n bc:Nat) (i:Nat) (os:List Int) (v:Value) (w:World):Prop where
 mbox:HeapIs w mq #[.int .i64 params,.slice (some ⟨BB,boff,none⟩) n bc] 101
 out:HeapIs w pq #[.int .i64 params,.int .i64 kk,.int .i64 0,.slice none 0 0] 27
 res:HeapIs w rq #[.int .i64 0,.int .i64 0,.int .i64 0,.slice none 0 0] 27
 own:w.ownsRow w0.heap.size 3 1 v i (os.map (Value.int .i64))
 len:os.length=i
 old:Since w0 w
theorem NvH.keep {w0 w w2:World} {mq rq pq BB boff n bc i:Nat} {params kk:Int} {os:List Int} {v : Value} (h:NvH w0 mq rq pq params kk BB boff n bc i os v w) (s:Since w w2):NvH w0 mq rq pq params kk BB boff n bc i os v w2:=
 ⟨h.mbox.keep s,h.out.keep s,h.res.keep s,Zv h.own s,h.len,h.old.trans s⟩
theorem NvH.next {w0 w w2:World} {mq rq pq BB boff n bc i:Nat} {params kk x:Int} {os:List Int} {v v':Value} (h:NvH w0 mq rq pq params kk BB boff n bc i os v w) (ha:w2.ownsRow w0.heap.size 3 1 v' (i+1) ((os++[x]).map (Value.int .i64))) (t:Zb (fun q=>v.ownBlock=some q) w w2):NvH w0 mq rq pq params kk BB boff n bc (i+1) (os++[x]) v' w2:=by
 have k:=Kin.row h.own;exact⟨h.mbox.turn t (k.heap h.mbox zaJ),h.out.turn t (k.heap h.out zaJ),h.res.turn t (k.heap h.res zaJ),ha,by rw[List.length_append,h.len];rfl,t.toSince h.old fun q hq e=>by have:=(World.ownsRow.lt h.own q e).1;omega⟩
structure YO (B:Nat) (w:World) (p:Z2):Prop where
 params:0≤p.params∧p.params≤4∧p.params≤p.slots
 slots:p.slots≤16000
 blocks:1≤p.blocks.length∧p.blocks.length≤9
 row:OwnRow blcells 6 34 B w p.bv p.blocks
 each:∀ x∈p.blocks,BlkNew B p.slots p.blocks.length w x
 total:ptotal p.blocks≤40000
theorem YO.keep {B : Nat} {w w':World} {p : Z2} (h:YO B w p) (s:Since w w'):YO B w' p:=⟨h.params,h.slots,h.blocks,h.row.keep s,fun x hx=>(h.each x hx).keep s,h.total⟩
theorem YO.low {B B':Nat} {w : World} {p : Z2} (h:YO B w p) (hb:B'≤B):YO B' w p:=⟨h.params,h.slots,h.blocks,XX h.row hb,fun x hx=>(h.each x hx).low hb,h.total⟩
theorem YO.turn {B : Nat} {w w':World} {p : Z2} {T : Nat→Prop} {U : TypeId} (h:YO B w p) (t:Zb T w w') (k:Kin w U T) (h0:34≠U) (h1:38≠U) (h2:3≠U):YO B w' p:=⟨h.params,h.slots,h.blocks,Zg h.row t (k.apart h.row h0),fun x hx=>(h.each x hx).turn t k h1 h2,h.total⟩
theorem KF {bl:List Zx} {b : Zx} (h:b∈bl):b.ins.length≤ptotal bl:=by
 unfold ptotal;have h2:=Xf (List.mem_map.2 ⟨b,h,rfl⟩:b.ins.length∈bl.map fun b=>b.ins.length);omega
theorem YO.ok {B : Nat} {w : World} {p : Z2} (h:YO B w p):Xz w p:=by
 refine⟨Z0 Z5 h.row fun b hb=>?_,by have:=h.blocks;omega⟩;have h1:=h.each b hb;refine⟨Z0 Zq h1.ins fun y hy=>?_,ZB h1.goals,by have:=KF hb;have:=h.total;omega⟩;have h2:=h1.each y hy;exact⟨ZB h2.args,h2.good.fine,fun q hq=>(World.ownsRow.lt h2.args q hq).2⟩
theorem YO.right {B : Nat} {w : World} {p : Z2} (h:YO B w p) (hk:4≤p.k∧p.k≤16):rightB p=true:=
 VT ⟨h.params.1,h.params.2.1⟩ hk ⟨by have:=h.params;omega,by have:=h.slots;omega⟩ ⟨h.blocks.1,by have:=h.blocks;omega⟩ (by have:=h.total;omega) fun b hb=>⟨fun x hx=>((h.each b hb).each x hx).good,(h.each b hb).fin⟩
theorem Zba (g:Vg) (kk:Int) (w:World) (h:Vw w g) (hg:Zai g) :
  Calls prog 50 #[mfv g,.int .i64 kk] w (fun e w'=>∃ p:Z2,e=.returned (pv p)∧p.k=kk∧YO w.heap.size w' p∧Since w w'):=by
 obtain⟨params,bs,bv⟩:=g;obtain⟨n,hl⟩:∃ n,bs.length=n:=⟨_,rfl⟩
 have hW:1≤n∧n≤9:=by rw[←hl];exact hg.blocks
 obtain⟨BB,boff,bc,rfl⟩:∃ BB boff bc,bv=.slice (some ⟨BB,boff,none⟩) n bc:=by
  rcases (show RowIn mbcells 7 MBlkIn w bv bs from h) with ⟨a,_,h2⟩|⟨B,off,cap,h1,_⟩
  ·rw[h2]at hl;simp at hl;omega
  ·exact⟨B,off,cap,by rw[h1,hl]⟩
 have hD:0≤params∧params≤4:=hg.params;have HG:=hid hg;have hI:=zH (RowIn mbcells 7 MBlkIn w (.slice (some ⟨BB,boff,none⟩) n bc) bs) h;have hm:=hid hl;have Hp:=hid (show psum7 bs≤27 from by
  have h1:=ZcJ (l:=bs) fun b hb=>(hg.each b hb).few
  omega)
 clear h hg hl;unfold mfv;dsimp only;go_enter func50,ntmps50
 go_upto_region 1 with fail
 obtain⟨mq,hM⟩:∃ z,z=w.heap.size:=⟨_,rfl⟩
 obtain⟨rq,hC⟩:∃ z,z=w.heap.size+1:=⟨_,rfl⟩
 obtain⟨w1,hh⟩:∃ z,z=(w.alloc (.cells #[.int .i64 params,.slice (some ⟨BB,boff,none⟩) n bc] 101)).alloc (.cells #[.int .i64 0,.int .i64 0,.int .i64 0,.slice none 0 0] 27):=⟨_,rfl⟩
 have hQ:=zH (HeapIs w1 mq #[.int .i64 params,.slice (some ⟨BB,boff,none⟩) n bc] 101) (by rw[hh,hM];exact (HeapIs.new _ _ _).keep ((Since.refl _).alloc _))
 have h7:=zH (HeapIs w1 rq #[.int .i64 0,.int .i64 0,.int .i64 0,.slice none 0 0] 27) (by rw[hh,hC];exact Jr _ _ _ _);have h6:=zH (Since w w1) (by rw[hh];exact ((Since.refl w).alloc _).alloc _)
 have h5:=zH (rq=w.heap.size+1∧w1.heap.size=w.heap.size+2) ⟨hC,by rw[hh];simp⟩;rw[←hh,←hC,←hM];clear hh hC hM;go_wp2_with (refine wpList_load_row rfl _ _ rfl mq rfl 101 _ (0,0) _ hQ.out underlying101 rfl zaF ?_)
 refine (Zct ⟨params,bs,.slice (some ⟨BB,boff,none⟩) n bc⟩ w1 (Vw.keep hI.out h6.out) HG.out).mono ?_;rintro e w2 ⟨top,rfl,Hc,hw,ht⟩;have Hq:=hid hw;have Hm:=hid (h6.out.trans ht);have hP:=hid (hQ.out.keep ht);have Hn:=hid (h7.out.keep ht);have h4:=zH (w.heap.size+2≤w2.heap.size) (by have:=h5.out;have:=ht.size;omega);have Hl:=hP.out.cell 0;have hE:=hP.out.lt;dsimp only at Hc;clear hw ht hQ h7;go_upto_region 3 with fail
 clear Hl hE;obtain⟨pq,hL⟩:∃ z,z=w2.heap.size:=⟨_,rfl⟩
 obtain⟨w3,hA⟩:∃ z,z=w2.alloc (.cells #[.int .i64 params,.int .i64 kk,.int .i64 0,.slice none 0 0] 27):=⟨_,rfl⟩
 have Hg:=zH (HeapIs w3 pq #[.int .i64 params,.int .i64 kk,.int .i64 0,.slice none 0 0] 27) (by rw[hA,hL];exact HeapIs.new _ _ _);have hF:=zH (Since w2 w3) (by rw[hA];exact (Since.refl _).alloc _)
 have ho:=zH (w.heap.size≤pq∧w.heap.size≤rq∧rq≠pq) (by have:=h4.out;have:=h5.out;omega);rw[←hA,←hL];clear hA hL;go_wp2_with fail
 go_loopw [7,8,9] (fun ov nv iv wr=>∃ (i:Nat) (v:Value) (nk:Int),ov=v∧nv=.int .i64 nk∧iv=.int .i64 i∧i≤n∧nk=top+(psum7 (bs.take i):Int)∧NvH w mq rq pq params kk BB boff n bc i (owl top bs i) v wr) (fun _ _ iv _=>n-(intOf iv).toNat)
 case atStart=>exact⟨0,_,top,rfl,rfl,rfl,Nat.zero_le _,by simp[psum7],(hP.out.keep hF.out).keep ((Since.refl _).alloc _),Hg.out.keep ((Since.refl _).alloc _),(Hn.out.keep hF.out).keep ((Since.refl _).alloc _),⟨rfl,.inr ⟨_,0,#[],rfl,by have:=h4.out;have:=hF.out.size;omega,ZG _ _,by simp,by unfold maxLen;omega,by simp,by simp[owl]⟩⟩,rfl,(Hm.out.trans hF.out).trans ((Since.refl _).alloc _)⟩
 case round =>
  obtain⟨i,v,nk,rfl,rfl,rfl,hi,hV,hc⟩:=hrel;obtain⟨va,vc,hv⟩:=Ze hc.own;subst hv;have ha:=hid hc;have hn:=hid hV;have Hi:=KH bs i;have Hs:0≤nk∧nk≤10027:=by have:=Hp.out;omega
  have hX:=hc.mbox.cell 1;have hE:=hc.mbox.lt;clear hc hV Hi;by_cases hY:i<n
  ·obtain⟨B1,o1,y,he,hB,hy,hN,hJ⟩:=RowIn.at (RowIn.keep MBlkIn.keep hI.out ha.out.old) (show i<bs.length by rw[hm.out];exact hY)
   cases he
   have h8:=hid hy;have Hf:=(HG.out.each y (List.mem_of_getElem? hy)).few;obtain⟨pa,pc,hK,_⟩:=RowIn.shape (show RowIn fpcells 2 YJ wr y.phv y.phis from hJ.1);obtain⟨pl,hk⟩:∃ z,y.phis.length=z:=⟨_,rfl⟩
   rw[hk]at hK Hf;have Ho:=hid hk;have Hr:=hid (fun (w5:World) (hs:Since w w5)=>show w5.cell? ⟨BB,boff+i*7,none⟩=some (.slice pa pl pc)∧BB<w5.heap.size from by
    obtain⟨B1,o1,y2,he,hB,hS,hN,_⟩:=RowIn.at (RowIn.keep MBlkIn.keep hI.out hs) (show i<bs.length by rw[hm.out];exact hY)
    cases he
    rw[h8.out]at hS
    cases hS
    exact⟨by rw[←hK];exact hN 0 zaJ,hB⟩)
   have K1:=zH ((wr.alloc (.cells #[.int .i64 nk] 3)).ownsRow w.heap.size 3 1 (.slice va i vc) (owl top bs i).length ((owl top bs i).map (Value.int .i64))) (by rw[JL];exact Zv ha.out.own ((Since.refl _).alloc _))
   have K2:=zH ((owl top bs i).length + [nk].length≤1000000) (by rw[JL];simp;omega);have K3:=zH (w.heap.size≤(wr.alloc (.cells #[.int .i64 nk] 3)).heap.size) (by have:=ha.out.old.size;simp;omega);clear hy hN hJ hK hk hB;go_upto_region 9 with (refine Zl (base:=w.heap.size) .i64 rfl _ _ 22 rfl 3 (.int .i64 0) 8 underlying22 Tryz.info3 rfl zaJ (.slice va i vc) _ (owl top bs i) [nk] rfl rfl K1.out (Ym _ _ _) K2.out K3.out ?_;intro v6 w6 hd hT hR;rw[List.length_append,JL]at hd;have hH:=hid ((ha.out.keep ((Since.refl _).alloc _)).next hd hT);obtain⟨v6a,v6c,Hh⟩:=Ze hd;subst Hh;clear hd hT hR)
   have hX:=hH.out.mbox.cell 1;have hE:=hH.out.mbox.lt;obtain⟨HD,HC⟩:=Hr.out w6 hH.out.old;go_wp2_with fail
   go_roundw
   case rel=>exact⟨i+1,_,nk+pl,by trivial,by trivial,by go_num,zaK,by rw[KI h8.out,Ho.out,hn.out];push_cast;omega,by rw[ZdI,←hn.out];exact hH.out⟩
   case measure=>simp[intOf];omega
  ·obtain rfl:n=i:=zaK
   have Ha:=zH (bs.take n=bs) (by rw[←hm.out];exact List.take_length);rw[Ha.out]at hn;have hk:=ha.out.out.lt;have Hj:=ha.out.out.frozen;have hU:=ha.out.out.cell 2;go_upto_block 2 with fail
   clear hk Hj hU hX hE;obtain⟨oc,Hk⟩:∃ z,z=vc:=⟨_,rfl⟩
   subst Hk;obtain⟨OB,ooff,rfl⟩:∃ OB ooff,va=some ⟨OB,ooff,none⟩:=by
    have h9:=ha.out.own;obtain⟨_,⟨h1,h2⟩|⟨g,c,u,h1,_⟩⟩:=h9
    ·omega
    ·cases h1;exact⟨_,_,rfl⟩
   obtain⟨w5,hz⟩:∃ z,z=wr.setCell ⟨pq,2,none⟩ (.int .i64 nk):=⟨_,rfl⟩
   have t5:Zb (fun q=>q=pq) wr w5:=by rw[hz];exact (Zb.refl (fun q=>q=pq) wr).setCell (p:=⟨pq,2,none⟩) rfl _
   have hc:NvS w mq rq pq params kk nk bs BB boff n bc OB ooff oc (owl top bs n) 0 [] (.slice none 0 0) w5:=by
    have k:=Kin.box ha.out.out;refine⟨ha.out.mbox.turn t5 (k.heap ha.out.mbox zaJ),by rw[hz];exact ha.out.out.set 2 _,ha.out.res.turn t5 ho.out.2.2,⟨n,Zg ha.out.own t5 (k.apart ha.out.own zaJ),JL _ _ _⟩,t5.toSince ha.out.old (fun q hq e=>by have:=ho.out;omega),ho.out,OwnRow.nil _ _ _ _ _,fun x hx=>zaI,rfl,Nat.zero_le _⟩
   have hG:NvG params nk bs n (owl top bs n):=by
    refine⟨hm.out,hW,⟨hD.1,hD.2,by have:=hn.out;omega⟩,zaK,fun b hb=>⟨?_,?_,?_⟩,fun j b hb=>?_⟩
    ·have h9:=HG.out.each b hb;rw[show (⟨params,bs,.slice (some ⟨BB,boff,none⟩) n bc⟩:Vg).blocks.length=n from hm.out]at h9;exact h9
    ·exact (Hq.out b hb).mono (by have:=hn.out;omega)
    ·have h1:Xs bs≤3600:=HG.out.total;have h2:=Xf (List.mem_map.2 ⟨b,hb,rfl⟩:b.ins.length∈bs.map fun b=>b.ins.length);unfold Xs at h1;omega
    ·have hj:j<n:=by have h9:=(List.getElem?_eq_some_iff.1 hb).1;rw[hm.out]at h9;exact h9
     refine⟨_,ZeX top bs hj,zaK,?_⟩;have h1:=KI hb;have h2:=KH bs (j+1);have h3:=hn.out;omega
   rw[←hz];have hO:=hid hc;have Hb:=hid hG;clear hz t5 hc hG;refine ZcS w mq rq pq params kk nk bs BB boff n bc OB ooff oc (owl top bs n) _ _ _ (ZN rfl rfl zf0) hI.out Hb.out hO.out ?_;clear hO ha;intro a1 w7 bks bkv hf hc;obtain⟨u,h0,hu⟩:=ZK hf;obtain⟨g1,g2,s2,s4,s6,s7,g3⟩:=hf;have e2:=hu 2 _ s2;have e4:=hu 4 _ s4;have e6:=hu 6 _ s6;have e7:=hu 7 _ s7;rw[e2,e4,e6,e7]at h0;subst h0;clear hu g1 g2 g3 e2 s2 e4 s4 e6 s6 e7 s7;obtain⟨ba,bc2,hZ⟩:=OwnRow.shape hc.row;rw[hc.len]at hZ;subst hZ;have ha:=hid hc;have hp:=hc.out;have hk:=hp.lt;have HB:=hp.cell 0;have HA:=hp.cell 1;have hU:=hp.cell 2;have Hz:=hp.cell 3;have hr:=hc.res;have Ht:=hr.lt;have Hu:=hr.frozen;have Hy:=hr.cell 0;have Hx:=hr.cell 1;have Hw:=hr.cell 2;have Hv:=hr.cell 3;clear hc hp hr;go_wp2_with fail
   have He:=(((ha.out.res.set 0 (.int .i64 params)).set 1 (.int .i64 kk)).set 2 (.int .i64 nk)).set 3 (.slice ba n bc2);try simp only[Exit.inBlock,Exit.then]
   refine bodyPost_ret (results_cell_row rfl _ _ rq 27 #[.int .i64 params,.int .i64 kk,.int .i64 nk,.slice ba n bc2] (0,0) _ rfl He underlying27 rfl zaF) rfl ?_;have t:Zb (fun q=>q=rq) w7 ((((w7.setCell ⟨rq,0,none⟩ (.int .i64 params)).setCell ⟨rq,1,none⟩ (.int .i64 kk)).setCell ⟨rq,2,none⟩ (.int .i64 nk)).setCell ⟨rq,3,none⟩ (.slice ba n bc2)):=((((Zb.refl (fun q=>q=rq) w7).setCell (p:=⟨rq,0,none⟩) rfl _).setCell (p:=⟨rq,1,none⟩) rfl _).setCell (p:=⟨rq,2,none⟩) rfl _).setCell (p:=⟨rq,3,none⟩) rfl _;have k:=Kin.box ha.out.res;refine⟨⟨params,kk,nk,bks,.slice ba n bc2⟩,rfl,rfl,⟨⟨hD.1,hD.2,by show params≤nk;have:=Hb.out.pa;omega⟩,by show nk≤16000;omega,by show 1≤bks.length∧bks.length≤9;rw[ha.out.len];exact hW,Zg ha.out.row t (k.apart (show w7.ownsRow _ _ _ _ _ _ from ha.out.row) zaJ),fun x hx=>?_,?_⟩,t.toSince ha.out.old fun q hq e=>by have:=ho.out;omega⟩
   ·show BlkNew w.heap.size nk bks.length _ x
    rw[ha.out.len];exact (ha.out.each x hx).turn t k zaJ zaJ
   ·show ptotal bks≤40000
    have h1:=ha.out.total;rw[Ha.out]at h1;have h2:Xs bs≤3600:=HG.out.total;have h3:=ha.out.len;unfold ptotal;unfold insSum at h1;omega
end Go.Proofs.YtimpddecdodddaaGreat
