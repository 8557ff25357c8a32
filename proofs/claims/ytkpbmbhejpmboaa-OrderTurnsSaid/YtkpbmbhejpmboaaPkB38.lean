/- jacquardref12.Naive: all blocks. -/
import Derived.Test.YtkpbmbhejpmboaaPkB37
namespace Go.Proofs.Ytkpbmbhejpmboaa
open Go.RowKit
set_option linter.unusedVariables false
set_option maxHeartbeats 4000000 in
set_option maxRecDepth 1000000 in
theorem nv_blocks (w0:World) (mq rq pq:Nat) (params kk S:Int) (bs:List MBlkV) (BB boff n bc OB ooff oc:Nat) (ow:List Int) (a0:Act) (w1:World) (Q0:Exit→Act→World→Prop) (hfr:FrV [(2,.pointer (some ⟨mq,0,none⟩)),(4,.pointer (some ⟨rq,0,none⟩)),(6,.pointer (some ⟨pq,0,none⟩)),(7,.slice (some ⟨OB,ooff,none⟩) n oc),(10,.int .i64 (0:Nat))] a0)
  (hfn:RowIn mbcells 7 MBlkIn w0 (.slice (some ⟨BB,boff,none⟩) n bc) bs) (hg:NvG params S bs n ow) (hst:NvS w0 mq rq pq params kk S bs BB boff n bc OB ooff oc ow 0 [] (.slice none 0 0) w1)
  (hQ:∀ a1 w2 bks bkv,FrV [(2,.pointer (some ⟨mq,0,none⟩)),(4,.pointer (some ⟨rq,0,none⟩)),(6,.pointer (some ⟨pq,0,none⟩)),(7,.slice (some ⟨OB,ooff,none⟩) n oc)] a1→NvS w0 mq rq pq params kk S bs BB boff n bc OB ooff oc ow n bks bkv w2→Q0 .normal a1 w2):Code.wp Try.prog (VCode [1,1,1,1,1,1,1,0,1]) Q0 a0 w1:=by
 obtain⟨u,ha0,hu⟩:=frameV_ex hfr
 obtain⟨g1,g2,s2,s4,s6,s7,s10,g3⟩:=hfr
 have e2:=hu 2 _ s2
 have e4:=hu 4 _ s4
 have e6:=hu 6 _ s6
 have e7:=hu 7 _ s7
 have e10:=hu 10 _ s10
 rw[e2,e4,e6,e7,e10]at ha0
 subst ha0
 clear hu g1 g2 g3 e2 s2 e4 s4 e6 s6 e7 s7 e10 s10
 conv=>arg 2;whnf
 have HQ:=Lib.hid hQ
 have HFN:=Lib.hid hfn
 have HG:=Lib.hid hg
 have hn9:=hg.n9
 clear hQ hfn hg
 go_wp2_with fail
 refine wp_loop_fr (fun t ac wr=>∃ (b:Nat) (bks:List BlkV) (bkv:Value),t=n-b∧b≤n∧FrV [(2,.pointer (some ⟨mq,0,none⟩)),(4,.pointer (some ⟨rq,0,none⟩)),(6,.pointer (some ⟨pq,0,none⟩)),(7,.slice (some ⟨OB,ooff,none⟩) n oc),(10,.int .i64 b)] ac∧NvS w0 mq rq pq params kk S bs BB boff n bc OB ooff oc ow b bks bkv wr) n ⟨0,[],_,rfl,Nat.zero_le _,(frV_mk rfl rfl (sl_cons rfl (sl_cons rfl (sl_cons rfl (sl_cons rfl (sl_cons rfl (sl_nil _))))))),hst⟩ ?_
 ·clear hst
  intro t a1 wr K hJ hK
  have HK9:=Lib.hid hK
  clear hK
  obtain⟨b,bks,bkv,rfl,hbn,hf,hst⟩:=hJ
  obtain⟨u,ha0,hu⟩:=frameV_ex hf
  obtain⟨g1,g2,s2,s4,s6,s7,s10,g3⟩:=hf
  have e2:=hu 2 _ s2
  have e4:=hu 4 _ s4
  have e6:=hu 6 _ s6
  have e7:=hu 7 _ s7
  have e10:=hu 10 _ s10
  rw[e2,e4,e6,e7,e10]at ha0
  subst ha0
  clear hu g1 g2 g3 e2 s2 e4 s4 e6 s6 e7 s7 e10 s10
  have HST:=Lib.hid hst
  have hx1:=hst.mbox.cell 1
  have hxl:=hst.mbox.lt
  clear hst
  by_cases hlt:b<n
  ·obtain⟨B1,o1,y,he,hB,hy,hcy,hyin⟩:=RowIn.at (RowIn.keep MBlkIn.keep HFN.out HST.out.old) (show b<bs.length by rw[HG.out.len];exact hlt)
   cases he
   have HKB:=Lib.hid hy
   have HKG:=Lib.hid (HG.out.each y (List.mem_of_getElem? hy))
   obtain⟨phs,phv,ins,insv,⟨eop,ea,eb,eto,etov,eimm⟩⟩:=y
   have hc0:wr.cell? ⟨BB,boff+b*7,none⟩=some phv:=hcy 0 (by decide)
   have hc1:wr.cell? ⟨BB,boff+b*7+1,none⟩=some insv:=hcy 1 (by decide)
   have hc2:wr.cell? ⟨BB,boff+b*7+2,none⟩=some (.int .i64 eop):=hcy 2 (by decide)
   have hc3:wr.cell? ⟨BB,boff+b*7+3,none⟩=some (.int .i64 ea):=hcy 3 (by decide)
   have hc4:wr.cell? ⟨BB,boff+b*7+4,none⟩=some (.int .i64 eb):=hcy 4 (by decide)
   have hc5:wr.cell? ⟨BB,boff+b*7+5,none⟩=some etov:=hcy 5 (by decide)
   have hc6:wr.cell? ⟨BB,boff+b*7+6,none⟩=some (.int .i32 eimm):=hcy 6 (by decide)
   obtain⟨pa,pc,hpv,_⟩:=RowIn.shape (show RowIn fpcells 2 FPhiIn wr phv phs from hyin.1)
   obtain⟨ia,ic,hiv,_⟩:=RowIn.shape (show RowIn macells 8 MaIn wr insv ins from hyin.2.1)
   obtain⟨ta,tc,htv⟩:=nums_lenI hyin.2.2
   obtain⟨pl,hpl⟩:∃ z,phs.length=z:=⟨_,rfl⟩
   obtain⟨il,hil⟩:∃ z,ins.length=z:=⟨_,rfl⟩
   obtain⟨tl,htl⟩:∃ z,eto.length=z:=⟨_,rfl⟩
   dsimp only at htv
   rw[hpl]at hpv
   rw[hil]at hiv
   rw[htl]at htv
   subst hpv
   subst hiv
   subst htv
   have HIL:=Lib.hid hil
   have HTL:=Lib.hid htl
   have htl65:tl≤65:=by
    have h9:=HKG.out.1.fin.op
    dsimp only at h9
    rw[htl]at h9
    omega
   have hil36:il≤3600:=by have h9:=HKG.out.2.2;dsimp only at h9;omega
   have HYIN:=Lib.hid (show MBlkIn wr ⟨phs,.slice pa pl pc,ins,.slice ia il ic,⟨eop,ea,eb,eto,.slice ta tl tc,eimm⟩⟩ from hyin)
   clear hy hcy hyin hpl hil htl
   go_upto_block 4 with fail
   obtain⟨xq,hxq⟩:∃ z,z=wr.heap.size:=⟨_,rfl⟩
   obtain⟨yq,hyq⟩:∃ z,z=wr.heap.size+1:=⟨_,rfl⟩
   obtain⟨wY,hwY⟩:∃ z,z=wr.alloc (.cells #[.slice pa pl pc,.slice ia il ic,.int .i64 eop,.int .i64 ea,.int .i64 eb,.slice ta tl tc,.int .i32 eimm] 143):=⟨_,rfl⟩
   have hws:wY.heap.size=wr.heap.size+1:=by rw[hwY];simp
   rw[←hwY,←hyq,←hxq]
   have HWR:=Lib.hid (show Since wr wY from by rw[hwY];exact (Since.refl _).alloc _)
   have HWY:=Lib.hid (show Since w0 wY from HST.out.old.trans HWR.out)
   have hD:NvD mq xq params bs BB boff n bc ⟨phs,.slice pa pl pc,ins,.slice ia il ic,⟨eop,ea,eb,eto,.slice ta tl tc,eimm⟩⟩ OB ooff oc ow wY:=by
    obtain⟨c,ho,hlc⟩:=HST.out.own
    refine⟨HST.out.mbox.keep HWR.out,RowIn.keep MBlkIn.keep HFN.out HWY.out,by rw[hwY,hxq];exact HeapIs.new _ _ _,?_,MBlkIn.keep _ _ _ HYIN.out HWR.out⟩
    rw[←hlc]at ho
    exact (nums_of_own ho).keep HWR.out
   have HD:=Lib.hid hD
   have hy0:NvY S wY 0 yq (.slice none 0 0) [] (wY.alloc (.cells #[.slice none 0 0,.int .i64 0,.int .i64 0,.int .i64 0,.slice none 0 0,.int .i32 0] 56)):=⟨by rw[hyq,←hws];exact HeapIs.new _ _ _,OwnRow.nil _ _ _ _ _,fun y hy=>(by cases hy),Nat.zero_le _,(Since.refl _).alloc _,by omega⟩
   have HYL:=Lib.hid (show w0.heap.size≤yq from by have:=HST.out.old.size;omega)
   have HYN:=Lib.hid (show ¬ bkv.ownBlock=some yq from fun e=>by have:=(World.ownsRow.lt (show wr.ownsRow _ _ _ _ _ _ from HST.out.row) yq e).2;omega)
   have HY:=Lib.hid hy0
   clear hwY hws hxq hyq hD hy0 hx1 hxl hc0 hc1 hc2 hc3 hc4 hc5 hc6 hB
   refine nv_params wY mq xq rq pq yq params S bs BB boff n bc ⟨phs,.slice pa pl pc,ins,.slice ia il ic,⟨eop,ea,eb,eto,.slice ta tl tc,eimm⟩⟩ OB ooff oc ow b _ _ _ _ _ (frV_mk rfl rfl (sl_cons rfl (sl_cons rfl (sl_cons rfl (sl_cons rfl (sl_cons rfl (sl_cons rfl (sl_cons rfl (sl_cons rfl (sl_nil _)))))))))) HD.out HG.out HKB.out HY.out ?_
   clear HY
   intro a1 w2 v xs hf hst
   obtain⟨u,ha0,hu⟩:=frameV_ex hf
   obtain⟨g1,g2,s2,s4,s6,s7,s10,s11,s12,g3⟩:=hf
   have e2:=hu 2 _ s2
   have e4:=hu 4 _ s4
   have e6:=hu 6 _ s6
   have e7:=hu 7 _ s7
   have e10:=hu 10 _ s10
   have e11:=hu 11 _ s11
   have e12:=hu 12 _ s12
   rw[e2,e4,e6,e7,e10,e11,e12]at ha0
   subst ha0
   clear hu g1 g2 g3 e2 s2 e4 s4 e6 s6 e7 s7 e10 s10 e11 s11 e12 s12
   have HY:=Lib.hid hst
   clear hst
   go_upto_block 6 with fail
   refine nv_phis wY mq xq rq pq yq params S bs BB boff n bc ⟨phs,.slice pa pl pc,ins,.slice ia il ic,⟨eop,ea,eb,eto,.slice ta tl tc,eimm⟩⟩ OB ooff oc ow b _ _ _ _ _ (frV_mk rfl rfl (sl_cons rfl (sl_cons rfl (sl_cons rfl (sl_cons rfl (sl_cons rfl (sl_cons rfl (sl_cons rfl (sl_cons rfl (sl_nil _)))))))))) HD.out HG.out HKB.out HY.out ?_
   clear HY
   intro a1 w3 v xs hf hst
   obtain⟨u,ha0,hu⟩:=frameV_ex hf
   obtain⟨g1,g2,s2,s4,s6,s7,s10,s11,s12,g3⟩:=hf
   have e2:=hu 2 _ s2
   have e4:=hu 4 _ s4
   have e6:=hu 6 _ s6
   have e7:=hu 7 _ s7
   have e10:=hu 10 _ s10
   have e11:=hu 11 _ s11
   have e12:=hu 12 _ s12
   rw[e2,e4,e6,e7,e10,e11,e12]at ha0
   subst ha0
   clear hu g1 g2 g3 e2 s2 e4 s4 e6 s6 e7 s7 e10 s10 e11 s11 e12 s12
   have HY:=Lib.hid hst
   clear hst
   go_upto_block 8 with fail
   refine nv_ins wY mq xq rq pq yq params S bs BB boff n bc ⟨phs,.slice pa pl pc,ins,.slice ia il ic,⟨eop,ea,eb,eto,.slice ta tl tc,eimm⟩⟩ OB ooff oc ow b _ _ _ _ _ (frV_mk rfl rfl (sl_cons rfl (sl_cons rfl (sl_cons rfl (sl_cons rfl (sl_cons rfl (sl_cons rfl (sl_cons rfl (sl_cons rfl (sl_nil _)))))))))) HD.out HG.out HKB.out HY.out ?_
   clear HY
   intro a1 w4 v xs hf hst
   obtain⟨u,ha0,hu⟩:=frameV_ex hf
   obtain⟨g1,g2,s2,s4,s6,s7,s10,s11,s12,g3⟩:=hf
   have e2:=hu 2 _ s2
   have e4:=hu 4 _ s4
   have e6:=hu 6 _ s6
   have e7:=hu 7 _ s7
   have e10:=hu 10 _ s10
   have e11:=hu 11 _ s11
   have e12:=hu 12 _ s12
   rw[e2,e4,e6,e7,e10,e11,e12]at ha0
   subst ha0
   clear hu g1 g2 g3 e2 s2 e4 s4 e6 s6 e7 s7 e10 s10 e11 s11 e12 s12
   have HY:=Lib.hid (show NvY S wY (10+7*il) yq v xs w4 from by have h9:=hst;dsimp only at h9;rw[HIL.out]at h9;exact h9)
   have hm:=HD.out.mbox.keep hst.old
   have hm1:=hm.cell 1
   have hml:=hm.lt
   clear hst hm
   go_upto_block 10 with fail
   clear hm1 hml
   refine nv_pairs3 wY mq xq rq pq yq params S bs BB boff n bc ⟨phs,.slice pa pl pc,ins,.slice ia il ic,⟨eop,ea,eb,eto,.slice ta tl tc,eimm⟩⟩ OB ooff oc ow b _ _ (10+7*il) _ _ _ (frV_mk rfl rfl (sl_cons rfl (sl_cons rfl (sl_cons rfl (sl_cons rfl (sl_cons rfl (sl_cons rfl (sl_cons rfl (sl_cons rfl (sl_nil _)))))))))) HD.out HG.out HKB.out (by omega) HY.out ?_
   clear HY
   intro a1 w5 v xs hf hst
   obtain⟨u,ha0,hu⟩:=frameV_ex hf
   obtain⟨g1,g2,s2,s4,s6,s7,s10,s11,s12,g3⟩:=hf
   have e2:=hu 2 _ s2
   have e4:=hu 4 _ s4
   have e6:=hu 6 _ s6
   have e7:=hu 7 _ s7
   have e10:=hu 10 _ s10
   have e11:=hu 11 _ s11
   have e12:=hu 12 _ s12
   rw[e2,e4,e6,e7,e10,e11,e12]at ha0
   subst ha0
   clear hu g1 g2 g3 e2 s2 e4 s4 e6 s6 e7 s7 e10 s10 e11 s11 e12 s12
   have HY:=Lib.hid hst
   have hx:=HD.out.xbox.keep hst.old
   have hx2:w5.cell? ⟨xq,2,none⟩=some (.int .i64 eop):=hx.cell 2
   have hx3:w5.cell? ⟨xq,3,none⟩=some (.int .i64 ea):=hx.cell 3
   have hx4:w5.cell? ⟨xq,4,none⟩=some (.int .i64 eb):=hx.cell 4
   have hx5:w5.cell? ⟨xq,5,none⟩=some (.slice ta tl tc):=hx.cell 5
   have hx6:w5.cell? ⟨xq,6,none⟩=some (.int .i32 eimm):=hx.cell 6
   have hxl:=hx.lt
   clear hst hx
   go_wp2_with fail
   refine (rneeds_new ⟨eop,ea,eb,eto,.slice ta tl tc,eimm⟩ w5 ⟨_,_,_,rfl⟩).mono ?_
   rintro e w6 ⟨nv,rfl,hnv,hs6,hnew⟩
   have HRG:=Lib.hid (needs_in HKG.out.1.fin)
   have HNS:=Lib.hid HKG.out.2.1.need
   dsimp only at HRG HNS
   obtain⟨l,hl⟩:∃ z,needs ⟨eop,ea,eb,eto,.slice ta tl tc,eimm⟩=z:=⟨_,rfl⟩
   rw[hl]at HRG hnv HNS
   have HL:=Lib.hid hl
   obtain⟨la,lc,hv⟩:=nums_lenI hnv
   obtain⟨ll,hll⟩:∃ z,l.length=z:=⟨_,rfl⟩
   rw[hll]at hv
   subst hv
   have hll2:ll≤2:=by rw[←hll];exact HRG.out.2
   have HLL:=Lib.hid hll
   have HNE:=Lib.hid (show (needs ⟨eop,ea,eb,eto,.slice ta tl tc,eimm⟩).length=ll from by rw[hl,hll])
   have HAP:=Lib.hid (show Apart (.slice la ll lc) v yq w6 from fun q hq=>by
    have h1:=hnew q hq
    have h2:=HY.out.box.lt
    refine⟨by omega,fun e=>?_,h1.2⟩
    have:=(World.ownsRow.lt (show w5.ownsRow _ _ _ _ _ _ from HY.out.row) q e).2
    omega)
   have HY6:=Lib.hid (HY.out.keep hs6)
   have HNV:=Lib.hid hnv
   clear hl hll hnv hnew hs6 HY hx2 hx3 hx4 hx5 hx6 hxl
   go_upto_block 16 with fail
   refine nv_needs wY mq xq rq pq yq params S bs BB boff n bc ⟨phs,.slice pa pl pc,ins,.slice ia il ic,⟨eop,ea,eb,eto,.slice ta tl tc,eimm⟩⟩ OB ooff oc ow b _ _ la ll lc l (10+7*il+486) _ _ _ (frV_mk rfl rfl (sl_cons rfl (sl_cons rfl (sl_cons rfl (sl_cons rfl (sl_cons rfl (sl_cons rfl (sl_cons rfl (sl_cons rfl (sl_cons rfl (sl_nil _))))))))))) HD.out HG.out HKB.out HLL.out hll2 (fun r hr=>⟨(HRG.out.1 r hr).1,HNS.out r hr⟩) HNV.out HAP.out (by omega) HY6.out ?_
   clear HNV HAP HY6 HRG HNS
   intro a1 w7 v xs8 hf hst
   obtain⟨u,ha0,hu⟩:=frameV_ex hf
   obtain⟨g1,g2,s2,s4,s6,s7,s10,s11,s12,s20,g3⟩:=hf
   have e2:=hu 2 _ s2
   have e4:=hu 4 _ s4
   have e6:=hu 6 _ s6
   have e7:=hu 7 _ s7
   have e10:=hu 10 _ s10
   have e11:=hu 11 _ s11
   have e12:=hu 12 _ s12
   have e20:=hu 20 _ s20
   rw[e2,e4,e6,e7,e10,e11,e12,e20]at ha0
   subst ha0
   clear hu g1 g2 g3 e2 s2 e4 s4 e6 s6 e7 s7 e10 s10 e11 s11 e12 s12 e20 s20
   obtain⟨va,vc,hv⟩:=OwnRow.shape hst.row
   obtain⟨vl,hvl⟩:∃ z,xs8.length=z:=⟨_,rfl⟩
   rw[hvl]at hv
   subst hv
   have HY7:=Lib.hid hst
   have HX7:=Lib.hid (show HeapIs w7 xq #[.slice pa pl pc,.slice ia il ic,.int .i64 eop,.int .i64 ea,.int .i64 eb,.slice ta tl tc,.int .i32 eimm] 143 from HD.out.xbox.keep hst.old)
   have HTO:=Lib.hid (show Nums .i64 w7 (.slice ta tl tc) eto from (HD.out.xin.2.2).keep hst.old)
   obtain⟨EA,hEA⟩:∃ z:Int,z=if eop=7∧ll=0 then -1 else 0:=⟨_,rfl⟩
   obtain⟨EB,hEB⟩:∃ z:Int,z=if 1<ll then 1 else 0:=⟨_,rfl⟩
   have HEA:=Lib.hid hEA
   have HEB:=Lib.hid hEB
   clear hst hvl hEA hEB
   go_upto_region 45 with fail
   refine wp_region_since_tail 12 rfl (by decide +kernel) (by decide +kernel) (by decide +kernel) (by decide)
    [Is (.pointer (some ⟨xq,2,none⟩)),Is (.pointer (some ⟨xq,2,none⟩)),Is (.int .i64 eop),IsNilOf 3 w7,Is (.pointer (some ⟨xq,2,none⟩)),Is (.pointer (some ⟨xq,5,none⟩)),Is (.slice ta tl tc),NewNums 3 w7 eto,Is (.pointer (some ⟨xq,2,none⟩)),Is (.pointer (some ⟨xq,6,none⟩)),Is (.int .i32 eimm),NvE w7 eop eimm eto]
    (by repeat (first | exact trivial | refine⟨Is.stable _,?_⟩ | refine⟨IsNilOf.stable _ _,?_⟩ | refine⟨NewNums.stable _ _ _,?_⟩ | refine⟨NvE.stable _ _ _ _,?_⟩)) ⟨?_,?_,?_,?_,?_,?_,?_,?_,?_,?_,?_,?_,trivial⟩ ?_
   rotate_right
   ·intro vs w8 hs hk
    simp only[List.take,List.drop,putAll,Act.put,KnowsAll,nthF,Is,List.setIfInBounds_toArray,List.set_cons_zero,List.set_cons_succ,Nat.reduceAdd]at hk ⊢
    try simp only[hk]
    obtain⟨na,nc,h11,h11b⟩:NvE w7 eop eimm eto (vs 11) w8:=by exact hk.2.2.2.2.2.2.2.2.2.2.2.1
    simp only[h11]
    have HY8:=Lib.hid (HY7.out.keep hs)
    have HX8:=Lib.hid (show HeapIs w8 xq #[.slice pa pl pc,.slice ia il ic,.int .i64 eop,.int .i64 ea,.int .i64 eb,.slice ta tl tc,.int .i32 eimm] 143 from HX7.out.keep hs)
    have HS8:=Lib.hid (HST.out.keep ((HWR.out.trans HY7.out.old).trans hs))
    have HNN:=Lib.hid (show w8.ownsRow wY.heap.size 3 1 (.slice na tl nc) tl (eto.map (Value.int .i64)) from by rw[←HTL.out];exact own_low h11b HY7.out.old.size)
    have hyb:=HY8.out.box
    have hyl:=hyb.lt
    have hyf:=hyb.frozen
    have hy1:=hyb.cell 1
    have hy2:=hyb.cell 2
    have hy3:=hyb.cell 3
    have hy4:=hyb.cell 4
    have hy5:=hyb.cell 5
    rw[HTL.out]
    clear hk hs h11 h11b hyb
    go_upto_if 221 with fail
    clear hyl hyf hy1 hy2 hy3 hy4 hy5
    obtain⟨wE,hwE⟩:∃ z,z=((((w8.setCell ⟨yq,1,none⟩ (.int .i64 eop)).setCell ⟨yq,2,none⟩ (.int .i64 0)).setCell ⟨yq,3,none⟩ (.int .i64 0)).setCell ⟨yq,4,none⟩ (.slice na tl nc)).setCell ⟨yq,5,none⟩ (.int .i32 eimm):=⟨_,rfl⟩
    have HE:=Lib.hid (show MidY w8 yq (.slice va vl vc) eop 0 0 (.slice na tl nc) eimm wE from⟨by rw[hwE];exact ((((HY8.out.box.set 1 _).set 2 _).set 3 _).set 4 _).set 5 _,by rw[hwE];exact (((((Turn.refl (fun q=>q=yq) w8).setCell (p:=⟨yq,1,none⟩) rfl _).setCell (p:=⟨yq,2,none⟩) rfl _).setCell (p:=⟨yq,3,none⟩) rfl _).setCell (p:=⟨yq,4,none⟩) rfl _).setCell (p:=⟨yq,5,none⟩) rfl _⟩)
    rw[←hwE]
    clear hwE
    refine wp_cut (fun a9 wz=>FrV [(2,.pointer (some ⟨mq,0,none⟩)),(4,.pointer (some ⟨rq,0,none⟩)),(6,.pointer (some ⟨pq,0,none⟩)),(7,.slice (some ⟨OB,ooff,none⟩) n oc),(10,.int .i64 b),(11,.pointer (some ⟨xq,0,none⟩)),(12,.pointer (some ⟨yq,0,none⟩)),(20,.slice la ll lc)] a9∧MidY w8 yq (.slice va vl vc) eop 0 EB (.slice na tl nc) eimm wz) ?_ ?_
    case refine_2 =>
     intro J K' hJ hK'
     have HJJ:=Lib.hid hJ
     have HKK:=Lib.hid hK'
     clear hJ hK'
     have hyb:=HE.out.1
     have hyl:=hyb.lt
     have hyf:=hyb.frozen
     have hy3:=hyb.cell 3
     clear hyb
     by_cases h1:1<ll
     ·go_wp2_with fail
      refine HKK.out _ _ (Met.intro (HJJ.out _ _ ⟨(frV_mk rfl rfl (sl_cons rfl (sl_cons rfl (sl_cons rfl (sl_cons rfl (sl_cons rfl (sl_cons rfl (sl_cons rfl (sl_cons rfl (sl_nil _)))))))))),?_⟩))
      rw[show EB=1 from by rw[HEB.out];exact if_pos h1]
      exact⟨HE.out.1.set 3 _,HE.out.2.setCell (p:=⟨yq,3,none⟩) rfl _⟩
     ·go_wp2_with fail
      refine HKK.out _ _ (Met.intro (HJJ.out _ _ ⟨(frV_mk rfl rfl (sl_cons rfl (sl_cons rfl (sl_cons rfl (sl_cons rfl (sl_cons rfl (sl_cons rfl (sl_cons rfl (sl_cons rfl (sl_nil _)))))))))),?_⟩))
      rw[show EB=0 from by rw[HEB.out];exact if_neg h1]
      exact HE.out
    case refine_1 =>
     clear HE
     intro a1 wc hcut0
     obtain⟨hf,hcut⟩:=hcut0
     obtain⟨u,ha0,hu⟩:=frameV_ex hf
     obtain⟨g1,g2,s2,s4,s6,s7,s10,s11,s12,s20,g3⟩:=hf
     have e2:=hu 2 _ s2
     have e4:=hu 4 _ s4
     have e6:=hu 6 _ s6
     have e7:=hu 7 _ s7
     have e10:=hu 10 _ s10
     have e11:=hu 11 _ s11
     have e12:=hu 12 _ s12
     have e20:=hu 20 _ s20
     rw[e2,e4,e6,e7,e10,e11,e12,e20]at ha0
     subst ha0
     clear hu g1 g2 g3 e2 s2 e4 s4 e6 s6 e7 s7 e10 s10 e11 s11 e12 s12 e20 s20
     have HE2:=Lib.hid hcut
     have hxb:=HX8.out.turn hcut.2 (heap_ne HX8.out HY8.out.box (by decide))
     have hx2:=hxb.cell 2
     have hxl:=hxb.lt
     have HXC:=Lib.hid hxb
     clear hcut hxb
     obtain⟨bq,hbq⟩:∃ z,(eop==7)=z:=⟨_,rfl⟩
     obtain⟨cq,hcq⟩:∃ z,((ll:Int)==0)=z:=⟨_,rfl⟩
     obtain⟨dq,hdq⟩:∃ z,(bq&&cq)=z:=⟨_,rfl⟩
     go_upto_region 48 with fail
     refine wp_cut (fun a9 wz=>FrV [(2,.pointer (some ⟨mq,0,none⟩)),(4,.pointer (some ⟨rq,0,none⟩)),(6,.pointer (some ⟨pq,0,none⟩)),(7,.slice (some ⟨OB,ooff,none⟩) n oc),(10,.int .i64 b),(11,.pointer (some ⟨xq,0,none⟩)),(12,.pointer (some ⟨yq,0,none⟩)),(20,.slice la ll lc),(232,.bool dq)] a9∧wz=wc) ?_ ?_
     case refine_2 =>
      intro J K' hJ hK'
      have HJJ:=Lib.hid hJ
      have HKK:=Lib.hid hK'
      clear hJ hK'
      cases bq
      ·have hd:dq=false:=by rw[←hdq];rfl
       subst hd
       clear hdq
       go_wp2_with fail
       exact HKK.out _ _ (Met.intro (HJJ.out _ _ ⟨(frV_mk rfl rfl (sl_cons rfl (sl_cons rfl (sl_cons rfl (sl_cons rfl (sl_cons rfl (sl_cons rfl (sl_cons rfl (sl_cons rfl (sl_cons rfl (sl_nil _))))))))))),rfl⟩))
      ·have hd:dq=cq:=by rw[←hdq];exact Bool.true_and cq
       subst hd
       clear hdq
       go_wp2_with fail
       exact HKK.out _ _ (Met.intro (HJJ.out _ _ ⟨(frV_mk rfl rfl (sl_cons rfl (sl_cons rfl (sl_cons rfl (sl_cons rfl (sl_cons rfl (sl_cons rfl (sl_cons rfl (sl_cons rfl (sl_cons rfl (sl_nil _))))))))))),rfl⟩))
     intro a1 wc2 hcut0
     obtain⟨hf,hw⟩:=hcut0
     obtain⟨u,ha0,hu⟩:=frameV_ex hf
     obtain⟨g1,g2,s2,s4,s6,s7,s10,s11,s12,s20,s232,g3⟩:=hf
     have e2:=hu 2 _ s2
     have e4:=hu 4 _ s4
     have e6:=hu 6 _ s6
     have e7:=hu 7 _ s7
     have e10:=hu 10 _ s10
     have e11:=hu 11 _ s11
     have e12:=hu 12 _ s12
     have e20:=hu 20 _ s20
     have e232:=hu 232 _ s232
     rw[e2,e4,e6,e7,e10,e11,e12,e20,e232]at ha0
     subst ha0
     clear hu g1 g2 g3 e2 s2 e4 s4 e6 s6 e7 s7 e10 s10 e11 s11 e12 s12 e20 s20 e232 s232
     have e9:=hw.symm
     clear hw
     subst e9
     go_upto_if 232 with fail
     clear hx2 hxl
     refine wp_cut (fun a9 wz=>FrV [(2,.pointer (some ⟨mq,0,none⟩)),(4,.pointer (some ⟨rq,0,none⟩)),(6,.pointer (some ⟨pq,0,none⟩)),(7,.slice (some ⟨OB,ooff,none⟩) n oc),(10,.int .i64 b),(11,.pointer (some ⟨xq,0,none⟩)),(12,.pointer (some ⟨yq,0,none⟩)),(20,.slice la ll lc)] a9∧MidY w8 yq (.slice va vl vc) eop EA EB (.slice na tl nc) eimm wz) ?_ ?_
     case refine_2 =>
      intro J K' hJ hK'
      have HJJ:=Lib.hid hJ
      have HKK:=Lib.hid hK'
      clear hJ hK'
      have hyb:=HE2.out.1
      have hyl:=hyb.lt
      have hyf:=hyb.frozen
      have hy2:=hyb.cell 2
      clear hyb
      cases dq
      ·have hea:EA=0:=by
        rw[HEA.out,if_neg]
        rintro⟨e1,e2⟩
        rw[←hbq,←hcq,e1,e2]at hdq
        cases hdq
       clear hbq hcq hdq
       go_wp2_with fail
       refine HKK.out _ _ (Met.intro (HJJ.out _ _ ⟨(frV_mk rfl rfl (sl_cons rfl (sl_cons rfl (sl_cons rfl (sl_cons rfl (sl_cons rfl (sl_cons rfl (sl_cons rfl (sl_cons rfl (sl_nil _)))))))))),?_⟩))
       rw[hea]
       exact HE2.out
      ·have hea:EA=-1:=by
        rw[Bool.and_eq_true]at hdq
        rw[hdq.1]at hbq
        rw[hdq.2]at hcq
        rw[HEA.out,if_pos ⟨by simpa using hbq,by simpa using hcq⟩]
       clear hbq hcq hdq
       go_wp2_with fail
       refine HKK.out _ _ (Met.intro (HJJ.out _ _ ⟨(frV_mk rfl rfl (sl_cons rfl (sl_cons rfl (sl_cons rfl (sl_cons rfl (sl_cons rfl (sl_cons rfl (sl_cons rfl (sl_cons rfl (sl_nil _)))))))))),?_⟩))
       rw[hea]
       exact⟨HE2.out.1.set 2 _,HE2.out.2.setCell (p:=⟨yq,2,none⟩) rfl _⟩
     case refine_1 =>
      clear HE2 HXC hbq hcq hdq
      intro a1 wc hcut0
      obtain⟨hf,hcut⟩:=hcut0
      obtain⟨u,ha0,hu⟩:=frameV_ex hf
      obtain⟨g1,g2,s2,s4,s6,s7,s10,s11,s12,s20,g3⟩:=hf
      have e2:=hu 2 _ s2
      have e4:=hu 4 _ s4
      have e6:=hu 6 _ s6
      have e7:=hu 7 _ s7
      have e10:=hu 10 _ s10
      have e11:=hu 11 _ s11
      have e12:=hu 12 _ s12
      have e20:=hu 20 _ s20
      rw[e2,e4,e6,e7,e10,e11,e12,e20]at ha0
      subst ha0
      clear hu g1 g2 g3 e2 s2 e4 s4 e6 s6 e7 s7 e10 s10 e11 s11 e12 s12 e20 s20
      have HYX:=Lib.hid hcut.1
      have tx:=hcut.2
      have HYM:=Lib.hid hcut
      clear hcut
      have hxb:=(HX8.out.turn tx (heap_ne HX8.out HY8.out.box (by decide)))
      have hps:=HS8.out.turnY HY8.out.box tx HYL.out HYN.out
      have hp3:=hps.out.cell 3
      have hpl:=hps.out.lt
      have HPS:=Lib.hid hps
      have HNO:=Lib.hid (own_turn HNN.out tx fun q hq e=>own_not HNN.out HY8.out.box (by decide) (e ▸ hq))
      obtain⟨ba,bc2,hbv⟩:=OwnRow.shape HST.out.row
      obtain⟨bl,hbl⟩:∃ z,bks.length=z:=⟨_,rfl⟩
      rw[hbl]at hbv
      subst hbv
      have HBL:=Lib.hid hbl
      have HTX:=Lib.hid tx
      clear hps hbl hxb tx
      obtain⟨YB,hYB⟩:∃ z:BlkV,z=⟨xs8,.slice va vl vc,⟨eop,EA,EB,eto,.slice na tl nc,eimm⟩⟩:=⟨_,rfl⟩
      have HBC:=Lib.hid (show blcells YB=[.slice va vl vc,.int .i64 eop,.int .i64 EA,.int .i64 EB,.slice na tl nc,.int .i32 eimm] from by rw[hYB];rfl)
      have HB1:=Lib.hid (show ∀ u∈blcells YB,u.oneCell'=true from by
       rw[HBC.out];intro u hu;simp only[List.mem_cons,List.not_mem_nil,or_false]at hu;rcases hu with rfl | rfl | rfl | rfl | rfl | rfl<;>rfl)
      have HYE:=Lib.hid hYB
      have hbl9:bl≤9:=by have:=HBL.out;have:=HST.out.len;have:=HG.out.n9;omega
      have HB2:=Lib.hid (show w0.heap.size≤(wc.alloc (.cells #[.slice va vl vc,.int .i64 eop,.int .i64 EA,.int .i64 EB,.slice na tl nc,.int .i32 eimm] 56)).heap.size from by have:=HPS.out.old.size;simp;omega)
      have HROW:=Lib.hid (show OwnRow blcells 6 56 w0.heap.size (wc.alloc (.cells #[.slice va vl vc,.int .i64 eop,.int .i64 EA,.int .i64 EB,.slice na tl nc,.int .i32 eimm] 56)) (.slice ba bl bc2) bks from HPS.out.row.keep ((Since.refl _).alloc _))
      have HPA:=Lib.hid (show NvS w0 mq rq pq params kk S bs BB boff n bc OB ooff oc ow b bks (.slice ba bl bc2) (wc.alloc (.cells #[.slice va vl vc,.int .i64 eop,.int .i64 EA,.int .i64 EB,.slice na tl nc,.int .i32 eimm] 56)) from HPS.out.keep ((Since.refl _).alloc _))
      clear hYB
      go_wp2_with (first | refine wpList_load_row rfl _ _ rfl yq rfl 56 _ (0,0) _ HYX.out Try.underlying56 rfl (by kernel_rfl) ?_ | (refine wpList_append_one2 (base:=w0.heap.size) blcells 6 blcells_len (by decide) rfl _ _ 22 rfl 56 (.agg #[.slice none 0 0,.int .i64 0,.int .i64 0,.int .i64 0,.slice none 0 0,.int .i32 0]) 80 Try.underlying22 (by kernel_rfl) rfl (.slice ba bl bc2) bks YB wc.heap.size 1 56 rfl rfl HROW.out (by rw[HBC.out];exact heap_last _ _) HB1.out (by rw[HBL.out];unfold maxLen;omega) (by rw[HBL.out];omega) HB2.out ?_;intro v' w10 hown' ht' hnew';obtain⟨va2,vc2,hv2⟩:=own_shape (show w10.ownsRow _ _ _ _ _ _ from hown');rw[show (bks++[YB]).length=bl+1 from by rw[List.length_append,HBL.out];rfl]at hv2;subst hv2;have HO10:=Lib.hid hown';have HT10:=Lib.hid ht';have hob:=HPA.out.out.turn ht' (own_not HPA.out.row HPA.out.out (by decide));have ho3:=hob.cell 3;have hol:=hob.lt;have hof:=hob.frozen;clear hown' ht' hnew' hob))
      have hyn:BlkNew w0.heap.size S n (wc.alloc (.cells #[.slice va vl vc,.int .i64 eop,.int .i64 EA,.int .i64 EB,.slice na tl nc,.int .i32 eimm] 56)) YB:=by
       have k:=Kin.box HY8.out.box
       have hlw:w0.heap.size≤wY.heap.size:=HWY.out.size
       have hb:BlkNew wY.heap.size S n w8 YB:=by
        rw[HYE.out]
        refine⟨HY8.out.row,HY8.out.each,?_,?_⟩
        ·show w8.ownsRow wY.heap.size 3 1 (.slice na tl nc) eto.length (eto.map (Value.int .i64))
         rw[HTL.out]
         exact HNN.out
        ·have h9:=nvEnd_good (tv:=.slice na tl nc) HKG.out.1.fin
         unfold nvEnd at h9
         rw[HNE.out]at h9
         rw[HEA.out,HEB.out]
         exact h9
       exact ((hb.low hlw).turn HTX.out k (by decide) (by decide)).keep ((Since.refl _).alloc _)
      have hlen:YB.ins.length≤498+7*ins.length:=by rw[HYE.out];have:=HY8.out.few;have:=HIL.out;show xs8.length≤_;omega
      exact HK9.out (n-(b+1)) _ _ (by omega) ⟨b+1,_,_,rfl,by omega,(frV_mk rfl rfl (sl_cons rfl (sl_cons rfl (sl_cons rfl (sl_cons rfl (sl_cons rfl (sl_nil _))))))),HPA.out.next HKB.out HO10.out HT10.out hyn hlen⟩
   all_goals
    intro vs w8 hs hk _
    simp only[List.take,putAll,Act.put,Knows,nthF,Is,List.setIfInBounds_toArray,List.set_cons_zero,List.set_cons_succ,Nat.reduceAdd]at hk ⊢
    try simp only[hk]
   ·go_wp2
    exact⟨_,rfl,rfl,Since.refl _⟩
   ·go_wp2
    exact⟨_,rfl,rfl,Since.refl _⟩
   ·have hbx:HeapIs w8 xq #[_,_,_,_,_,_,_] 143:=HX7.out.keep hs
    have hc:=hbx.cell 2
    have hl:=hbx.lt
    clear hbx
    go_wp2
    exact⟨_,rfl,rfl,Since.refl _⟩
   ·have hz:=hs.size
    clear hk
    go_wp2
    exact⟨_,rfl,IsNilOf.new hz,(Since.refl _).alloc _⟩
   ·go_wp2
    exact⟨_,rfl,rfl,Since.refl _⟩
   ·go_wp2
    exact⟨_,rfl,rfl,Since.refl _⟩
   ·have hbx:HeapIs w8 xq #[_,_,_,_,_,_,_] 143:=HX7.out.keep hs
    have hc:=hbx.cell 5
    have hl:=hbx.lt
    clear hbx
    go_wp2
    exact⟨_,rfl,rfl,Since.refl _⟩
   ·have hz:=hs.size
    have hnil:IsNilOf 3 w7 (vs 3) w8:=by exact hk.1
    have hsrc:=srcInts (show Nums .i64 w8 (.slice ta tl tc) eto from HTO.out.keep hs)
    have htl:=HTL.out
    generalize vs 3=v5 at *
    clear hk
    refine wpList_append_clone (w0:=w7) rfl _ _ 25 rfl 3 (.int .i64 0) 1 8 Try.underlying25 Try.info3 rfl (by decide) (by decide) v5 (.slice ta tl tc) eto.length (eto.map (Value.int .i64)) (by first | rfl | exact congrArg _ rfl) (by first | rfl | (rw[htl];rfl)) hnil hsrc (by simp) (by omega) (fun u hu=>by obtain⟨z,_,rfl⟩:=List.mem_map.1 hu;rfl) hz ?_
    intro v' w3 hown hs3
    go_wp2
    exact⟨_,rfl,hown,hs3⟩
   ·go_wp2
    exact⟨_,rfl,rfl,Since.refl _⟩
   ·go_wp2
    exact⟨_,rfl,rfl,Since.refl _⟩
   ·have hbx:HeapIs w8 xq #[_,_,_,_,_,_,_] 143:=HX7.out.keep hs
    have hc:=hbx.cell 6
    have hl:=hbx.lt
    clear hbx
    go_wp2
    exact⟨_,rfl,rfl,Since.refl _⟩
   ·have h7:NewNums 3 w7 eto (vs 7) w8:=by exact hk.2.1
    obtain⟨na,nc,hv⟩:=own_shape (show w8.ownsRow _ _ _ _ _ _ from h7)
    generalize vs 7=v7 at *
    subst hv
    have k2:=hk.1
    have k10:=hk.2.2
    try simp only[k2,k10]
    clear k2 k10
    clear hk
    go_wp2
    exact⟨_,rfl,⟨na,nc,rfl,h7⟩,Since.refl _⟩
  ·obtain rfl:n=b:=by omega
   go_wp2_with fail
   exact HQ.out _ _ bks bkv (frV_mk rfl rfl (sl_cons rfl (sl_cons rfl (sl_cons rfl (sl_cons rfl (sl_nil _)))))) HST.out
end Go.Proofs.Ytkpbmbhejpmboaa
