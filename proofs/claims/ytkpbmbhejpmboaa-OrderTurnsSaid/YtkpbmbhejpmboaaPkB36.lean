/- jacquardref12.Naive: what a block takes from the slots of its phis. jacquardref12.Naive: a block's instructions. jacquardref12.Naive: what the phis of the blocks behind get. -/
import Derived.Test.YtkpbmbhejpmboaaPkB35
namespace Go.Proofs.Ytkpbmbhejpmboaa
open Go.RowKit
set_option linter.unusedVariables false
set_option maxHeartbeats 4000000 in
set_option maxRecDepth 1000000 in
theorem nv_phis (wY:World) (mq xq rq pq yq:Nat) (params S:Int) (bs:List MBlkV) (BB boff n bc:Nat) (k:MBlkV) (OB ooff oc:Nat) (ow:List Int) (b:Nat) (v0:Value) (xs0:List PlV) (a0:Act) (w1:World) (Q0:Exit→Act→World→Prop) (hfr:FrV [(2,.pointer (some ⟨mq,0,none⟩)),(4,.pointer (some ⟨rq,0,none⟩)),(6,.pointer (some ⟨pq,0,none⟩)),(7,.slice (some ⟨OB,ooff,none⟩) n oc),(10,.int .i64 b),(11,.pointer (some ⟨xq,0,none⟩)),(12,.pointer (some ⟨yq,0,none⟩)),(14,.int .i64 (0:Nat))] a0)
  (hd:NvD mq xq params bs BB boff n bc k OB ooff oc ow wY) (hg:NvG params S bs n ow) (hkb:bs[b]? = some k) (hst:NvY S wY 4 yq v0 xs0 w1)
  (hQ:∀ a1 w2 v2 xs2,FrV [(2,.pointer (some ⟨mq,0,none⟩)),(4,.pointer (some ⟨rq,0,none⟩)),(6,.pointer (some ⟨pq,0,none⟩)),(7,.slice (some ⟨OB,ooff,none⟩) n oc),(10,.int .i64 b),(11,.pointer (some ⟨xq,0,none⟩)),(12,.pointer (some ⟨yq,0,none⟩))] a1→NvY S wY 10 yq v2 xs2 w2→Q0 .normal a1 w2):Code.wp Try.prog (VCode [1,1,1,1,1,1,1,0,1,0,0,1,0,0,1,1,1,0,1]) Q0 a0 w1:=by
 obtain⟨u,ha0,hu⟩:=frameV_ex hfr
 obtain⟨g1,g2,s2,s4,s6,s7,s10,s11,s12,s14,g3⟩:=hfr
 have e2:=hu 2 _ s2
 have e4:=hu 4 _ s4
 have e6:=hu 6 _ s6
 have e7:=hu 7 _ s7
 have e10:=hu 10 _ s10
 have e11:=hu 11 _ s11
 have e12:=hu 12 _ s12
 have e14:=hu 14 _ s14
 rw[e2,e4,e6,e7,e10,e11,e12,e14]at ha0
 subst ha0
 clear hu g1 g2 g3 e2 s2 e4 s4 e6 s6 e7 s7 e10 s10 e11 s11 e12 s12 e14 s14
 conv=>arg 2;whnf
 have HQ:=Lib.hid hQ
 have HD:=Lib.hid hd
 have HG:=Lib.hid hg
 have HKB:=Lib.hid hkb
 clear hQ hd hg hkb
 have hkm:=HG.out.each k (List.mem_of_getElem? HKB.out)
 obtain⟨o,hob,ho0,hoS⟩:=HG.out.own b k HKB.out
 have HOB:=Lib.hid hob
 have hbn:b<n:=by have h9:=(List.getElem?_eq_some_iff.1 HKB.out).1;rw[HG.out.len]at h9;exact h9
 have hn9:=HG.out.n9
 have HPH:=Lib.hid hkm.1.phis
 have HBD:=Lib.hid hkm.2.1.dst
 have hpl3:=hkm.1.few
 obtain⟨pa,pc,hpv,_⟩:=RowIn.shape (show RowIn fpcells 2 FPhiIn wY k.phv k.phis from HD.out.xin.1)
 obtain⟨pl,hpl⟩:∃ z,k.phis.length=z:=⟨_,rfl⟩
 rw[hpl]at hpv hpl3 hoS
 have HPL:=Lib.hid hpl
 have HPV:=Lib.hid hpv
 have HSl:=HG.out.Sle
 clear hob hkm hpv hpl
 go_wp2_with fail
 refine wp_loop_fr (fun t ac wr=>∃ (i:Nat) (v:Value) (xs:List PlV),t=pl-i∧i≤pl∧FrV [(2,.pointer (some ⟨mq,0,none⟩)),(4,.pointer (some ⟨rq,0,none⟩)),(6,.pointer (some ⟨pq,0,none⟩)),(7,.slice (some ⟨OB,ooff,none⟩) n oc),(10,.int .i64 b),(11,.pointer (some ⟨xq,0,none⟩)),(12,.pointer (some ⟨yq,0,none⟩)),(14,.int .i64 i)] ac∧NvY S wY (4+2*i) yq v xs wr) pl ⟨0,_,_,rfl,Nat.zero_le _,(frV_mk rfl rfl (sl_cons rfl (sl_cons rfl (sl_cons rfl (sl_cons rfl (sl_cons rfl (sl_cons rfl (sl_cons rfl (sl_cons rfl (sl_nil _)))))))))),hst⟩ ?_
 ·clear hst
  intro t a1 wr K hJ hK
  have HK9:=Lib.hid hK
  clear hK
  obtain⟨i,v,xs,rfl,hi,hf,hst⟩:=hJ
  obtain⟨u,ha0,hu⟩:=frameV_ex hf
  obtain⟨g1,g2,s2,s4,s6,s7,s10,s11,s12,s14,g3⟩:=hf
  have e2:=hu 2 _ s2
  have e4:=hu 4 _ s4
  have e6:=hu 6 _ s6
  have e7:=hu 7 _ s7
  have e10:=hu 10 _ s10
  have e11:=hu 11 _ s11
  have e12:=hu 12 _ s12
  have e14:=hu 14 _ s14
  rw[e2,e4,e6,e7,e10,e11,e12,e14]at ha0
  subst ha0
  clear hu g1 g2 g3 e2 s2 e4 s4 e6 s6 e7 s7 e10 s10 e11 s11 e12 s12 e14 s14
  have HST:=Lib.hid hst
  have HDR:=Lib.hid (HD.out.keep hst.old)
  have hx0:=HDR.out.xbox.cell 0
  rw[show (#[k.phv,k.insv,.int .i64 k.fin.op,.int .i64 k.fin.a,.int .i64 k.fin.b,k.fin.tov,.int .i32 k.fin.imm]:Array Value)[0]? = some k.phv from rfl,HPV.out]at hx0
  have hxl:=HDR.out.xbox.lt
  clear hst
  by_cases hlt:i<pl
  ·obtain⟨PB,poff,y,rfl,hPB,hy,hcP,hyin⟩:=RowIn.at (show RowIn fpcells 2 FPhiIn wr (.slice pa pl pc) k.phis from by rw[←HPV.out];exact HDR.out.xin.1) (by rw[HPL.out];exact hlt)
   obtain⟨dst,ins,inv⟩:=y
   have hym:=List.mem_of_getElem? hy
   have hd7:=(HPH.out _ hym).1
   have hdS:=HBD.out _ hym
   dsimp only at hd7 hdS
   have HOC:=Lib.hid (fun (w5:World) (hs:Since wr w5)=>show w5.cell? ⟨OB,ooff+b,none⟩=some (.int .i64 o)∧OB<w5.heap.size from (HDR.out.keep hs).ocell HOB.out)
   have HXC:=Lib.hid (fun (w5:World) (hs:Since wr w5)=>show w5.cell? ⟨xq,0,none⟩=some (.slice (some ⟨PB,poff,none⟩) pl pc)∧xq<w5.heap.size from by
    refine⟨?_,(HDR.out.keep hs).xbox.lt⟩
    rw[←HPV.out]
    exact (HDR.out.keep hs).xbox.cell 0)
   have HPC:=Lib.hid (fun (w5:World) (hs:Since wr w5)=>show w5.cell? ⟨PB,poff+i*2,none⟩=some (.int .i64 dst)∧PB<w5.heap.size from⟨by rw[hs.cell (p:=⟨PB,poff+i*2,none⟩) hPB];exact hcP 0 (by decide),Nat.lt_of_lt_of_le hPB hs.size⟩)
   have HLB:=Lib.hid (show 0≤o+(i:Int)∧o+(i:Int)<100000 from by omega)
   have HLC:=Lib.hid (show 0≤o+(i:Int)∧o+(i:Int)<S from by omega)
   have HLD:=Lib.hid (show 0≤dst∧dst<100000 from by omega)
   have HLE2:=Lib.hid (show 0≤dst∧dst<S from by omega)
   have HCC:=Lib.hid (show 4+2*i≤100000 from by omega)
   clear hy hym hd7 hdS hcP hyin ho0 hoS
   go_upto_region 23 with fail
   clear hx0 hxl hPB
   refine wp_region_since_tail 17 rfl (by decide +kernel) (by decide +kernel) (by decide +kernel) (by decide)
    [Is (.pointer (some ⟨yq,0,none⟩)),Is v,Is (.slice (some ⟨OB,ooff,none⟩) n oc),Is (.int .i64 b),Is (.pointer (some ⟨OB,ooff+b,none⟩)),Is (.int .i64 o),Is (.int .i64 i),Is (.int .i64 (o+i)),Is (.agg #[.int .i64 30,.int .i64 0,.int .i64 0,.int .i64 0,.int .i64 0,.int .i64 0,.int .i32 (o+i),.slice none 0 0,.int .i64 (-1)]),Is (.pointer (some ⟨xq,0,none⟩)),Is (.slice (some ⟨PB,poff,none⟩) pl pc),Is (.int .i64 i),Is (.pointer (some ⟨PB,poff+i*2,none⟩)),Is (.pointer (some ⟨PB,poff+i*2,none⟩)),Is (.int .i64 dst),Is (.agg #[.int .i64 31,.int .i64 0,.int .i64 0,.int .i64 0,.int .i64 0,.int .i64 0,.int .i32 dst,.slice none 0 0,.int .i64 (-1)]),GoodRow wY.heap.size S 2]
    (by repeat (first | exact trivial | refine⟨Is.stable _,?_⟩ | refine⟨GoodRow.stable _ _ _,?_⟩)) ⟨?_,?_,?_,?_,?_,?_,?_,?_,?_,?_,?_,?_,?_,?_,?_,?_,?_,trivial⟩ ?_
   rotate_right
   ·intro vs w5 hs hk
    simp only[List.take,List.drop,putAll,Act.put,KnowsAll,nthF,Is,List.setIfInBounds_toArray,List.set_cons_zero,List.set_cons_succ,Nat.reduceAdd]at hk ⊢
    try simp only[hk]
    obtain⟨ys,hyl,hyr,hyg⟩:GoodRow wY.heap.size S 2 (vs 16) w5:=by exact hk.2.2.2.2.2.2.2.2.2.2.2.2.2.2.2.2.1
    generalize vs 16=xv at *
    have HY5:=Lib.hid (HST.out.keep hs)
    have HYL:=Lib.hid hyl
    have HYR:=Lib.hid hyr
    have HYG:=Lib.hid hyg
    have HLE:=Lib.hid (show xs.length+ys.length≤1000000 from by have:=HST.out.few;have:=HCC.out;omega)
    clear hk hs hyl hyr hyg
    go_wp2_with (refine wpList_append_rows (base:=wY.heap.size) plcells 9 plcells_len (by decide) rfl _ _ 54 rfl 58 (.agg #[.int .i64 0,.int .i64 0,.int .i64 0,.int .i64 0,.int .i64 0,.int .i64 0,.int .i32 0,.slice none 0 0,.int .i64 0]) 88 Try.underlying54 (by kernel_rfl) rfl (by decide) v xv xs ys rfl rfl HY5.out.row (srcRow plcells_len (by decide) HYR.out) (pl_one HYG.out) HLE.out HY5.out.old.size ?_;intro v' w6 hown ht hnew;obtain⟨va2,vc2,hv2⟩:=own_shape (show w6.ownsRow _ _ _ _ _ _ from hown);obtain⟨l2,hl2⟩:∃ z,(xs++ys).length=z:=⟨_,rfl⟩;rw[hl2]at hv2;subst hv2;have HOWN:=Lib.hid hown;have HT6:=Lib.hid ht;have HNW:=Lib.hid hnew;have hb6:=HY5.out.box.turn ht (own_not HY5.out.row HY5.out.box (by decide));have h6l:=hb6.lt;have h6f:=hb6.frozen;have h6c:=hb6.cell 0;clear hown ht hnew hb6 hl2)
    exact HK9.out (pl-(i+1)) _ _ (by omega) ⟨i+1,_,_,rfl,by omega,(frV_mk rfl rfl (sl_cons rfl (sl_cons rfl (sl_cons rfl (sl_cons rfl (sl_cons rfl (sl_cons rfl (sl_cons rfl (sl_cons rfl (sl_nil _)))))))))),HY5.out.put HOWN.out HT6.out HYG.out (by have:=HY5.out.few;have:=HYL.out;omega)⟩
   all_goals
    intro vs w5 hs hk _
    simp only[List.take,putAll,Act.put,Knows,nthF,Is,List.setIfInBounds_toArray,List.set_cons_zero,List.set_cons_succ,Nat.reduceAdd]at hk ⊢
    try simp only[hk]
   ·go_wp2
    exact⟨_,rfl,rfl,Since.refl _⟩
   ·have hbx:HeapIs w5 yq #[v,.int .i64 0,.int .i64 0,.int .i64 0,.slice none 0 0,.int .i32 0] 56:=HST.out.box.keep hs
    have hc:=hbx.cell 0
    have hl:=hbx.lt
    clear hbx
    go_wp2
    exact⟨_,rfl,rfl,Since.refl _⟩
   ·go_wp2
    exact⟨_,rfl,rfl,Since.refl _⟩
   ·go_wp2
    exact⟨_,rfl,rfl,Since.refl _⟩
   ·go_wp2
    exact⟨_,rfl,rfl,Since.refl _⟩
   ·obtain⟨hcc,hcl⟩:=HOC.out w5 hs
    clear hk
    go_wp2
    exact⟨_,rfl,rfl,Since.refl _⟩
   ·go_wp2
    exact⟨_,rfl,rfl,Since.refl _⟩
   ·have h9:=HLB.out
    go_wp2
    exact⟨_,rfl,rfl,Since.refl _⟩
   ·clear hk
    go_wp2_with fail
    refine (laid30_any 0 (o+i) w5 (by decide) HLB.out).mono ?_
    rintro e w6 ⟨rfl,hs6⟩
    go_wp2
    exact⟨_,rfl,rfl,hs6⟩
   ·go_wp2
    exact⟨_,rfl,rfl,Since.refl _⟩
   ·obtain⟨hcc,hcl⟩:=HXC.out w5 hs
    clear hk
    go_wp2
    exact⟨_,rfl,rfl,Since.refl _⟩
   ·go_wp2
    exact⟨_,rfl,rfl,Since.refl _⟩
   ·go_wp2
    exact⟨_,rfl,rfl,Since.refl _⟩
   ·go_wp2
    exact⟨_,rfl,rfl,Since.refl _⟩
   ·obtain⟨hcc,hcl⟩:=HPC.out w5 hs
    clear hk
    go_wp2
    exact⟨_,rfl,rfl,Since.refl _⟩
   ·clear hk
    go_wp2_with fail
    refine (laid31_any 0 dst w5 (by decide) HLD.out).mono ?_
    rintro e w6 ⟨rfl,hs6⟩
    go_wp2
    exact⟨_,rfl,rfl,hs6⟩
   ·clear hk
    go_wp2
    exact⟨_,rfl,⟨[laidP 30 0 (o+i),laidP 31 0 dst],Nat.le_refl 2,row3031 (HeapIs.new _ _ _),fun y hy=>by
   rcases List.mem_cons.1 hy with hy|hy
   ·rw[hy];exact PlNew.laid (.inl rfl) (by decide) HLC.out HG.out.Sle
   ·rw[List.mem_singleton.1 hy];exact PlNew.laid (.inr rfl) (by decide) HLE2.out HG.out.Sle⟩,(Since.refl _).alloc _⟩
  ·obtain rfl:pl=i:=by omega
   go_wp2_with fail
   exact HQ.out _ _ v xs (frV_mk rfl rfl (sl_cons rfl (sl_cons rfl (sl_cons rfl (sl_cons rfl (sl_cons rfl (sl_cons rfl (sl_cons rfl (sl_nil _))))))))) (HST.out.more (by omega))
set_option maxHeartbeats 4000000 in
set_option maxRecDepth 1000000 in
theorem nv_ins (wY:World) (mq xq rq pq yq:Nat) (params S:Int) (bs:List MBlkV) (BB boff n bc:Nat) (k:MBlkV) (OB ooff oc:Nat) (ow:List Int) (b:Nat) (v0:Value) (xs0:List PlV) (a0:Act) (w1:World) (Q0:Exit→Act→World→Prop) (hfr:FrV [(2,.pointer (some ⟨mq,0,none⟩)),(4,.pointer (some ⟨rq,0,none⟩)),(6,.pointer (some ⟨pq,0,none⟩)),(7,.slice (some ⟨OB,ooff,none⟩) n oc),(10,.int .i64 b),(11,.pointer (some ⟨xq,0,none⟩)),(12,.pointer (some ⟨yq,0,none⟩)),(15,.int .i64 (0:Nat))] a0)
  (hd:NvD mq xq params bs BB boff n bc k OB ooff oc ow wY) (hg:NvG params S bs n ow) (hkb:bs[b]? = some k) (hst:NvY S wY 10 yq v0 xs0 w1)
  (hQ:∀ a1 w2 v2 xs2,FrV [(2,.pointer (some ⟨mq,0,none⟩)),(4,.pointer (some ⟨rq,0,none⟩)),(6,.pointer (some ⟨pq,0,none⟩)),(7,.slice (some ⟨OB,ooff,none⟩) n oc),(10,.int .i64 b),(11,.pointer (some ⟨xq,0,none⟩)),(12,.pointer (some ⟨yq,0,none⟩))] a1→NvY S wY (10+7*k.ins.length) yq v2 xs2 w2→Q0 .normal a1 w2):Code.wp Try.prog (VCode [1,1,1,1,1,1,1,0,1,0,0,1,0,0,1,1,1,1,0,1]) Q0 a0 w1:=by
 obtain⟨u,ha0,hu⟩:=frameV_ex hfr
 obtain⟨g1,g2,s2,s4,s6,s7,s10,s11,s12,s15,g3⟩:=hfr
 have e2:=hu 2 _ s2
 have e4:=hu 4 _ s4
 have e6:=hu 6 _ s6
 have e7:=hu 7 _ s7
 have e10:=hu 10 _ s10
 have e11:=hu 11 _ s11
 have e12:=hu 12 _ s12
 have e15:=hu 15 _ s15
 rw[e2,e4,e6,e7,e10,e11,e12,e15]at ha0
 subst ha0
 clear hu g1 g2 g3 e2 s2 e4 s4 e6 s6 e7 s7 e10 s10 e11 s11 e12 s12 e15 s15
 conv=>arg 2;whnf
 have HQ:=Lib.hid hQ
 have HD:=Lib.hid hd
 have HG:=Lib.hid hg
 have HKB:=Lib.hid hkb
 clear hQ hd hg hkb
 have hkm:=HG.out.each k (List.mem_of_getElem? HKB.out)
 have HIG:=Lib.hid hkm.1.ins
 have HIS:=Lib.hid hkm.2.1.ins
 have hil36:=hkm.2.2
 obtain⟨ia,ic,hiv,_⟩:=RowIn.shape (show RowIn macells 8 MaIn wY k.insv k.ins from HD.out.xin.2.1)
 obtain⟨il,hil⟩:∃ z,k.ins.length=z:=⟨_,rfl⟩
 rw[hil]at hiv hil36
 have HIL:=Lib.hid hil
 have HIV:=Lib.hid hiv
 clear hkm hiv hil
 go_wp2_with fail
 refine wp_loop_fr (fun t ac wr=>∃ (i:Nat) (v:Value) (xs:List PlV),t=il-i∧i≤il∧FrV [(2,.pointer (some ⟨mq,0,none⟩)),(4,.pointer (some ⟨rq,0,none⟩)),(6,.pointer (some ⟨pq,0,none⟩)),(7,.slice (some ⟨OB,ooff,none⟩) n oc),(10,.int .i64 b),(11,.pointer (some ⟨xq,0,none⟩)),(12,.pointer (some ⟨yq,0,none⟩)),(15,.int .i64 i)] ac∧NvY S wY (10+7*i) yq v xs wr) il ⟨0,_,_,rfl,Nat.zero_le _,(frV_mk rfl rfl (sl_cons rfl (sl_cons rfl (sl_cons rfl (sl_cons rfl (sl_cons rfl (sl_cons rfl (sl_cons rfl (sl_cons rfl (sl_nil _)))))))))),hst⟩ ?_
 ·clear hst
  intro t a1 wr K hJ hK
  have HK9:=Lib.hid hK
  clear hK
  obtain⟨i,v,xs,rfl,hi,hf,hst⟩:=hJ
  obtain⟨u,ha0,hu⟩:=frameV_ex hf
  obtain⟨g1,g2,s2,s4,s6,s7,s10,s11,s12,s15,g3⟩:=hf
  have e2:=hu 2 _ s2
  have e4:=hu 4 _ s4
  have e6:=hu 6 _ s6
  have e7:=hu 7 _ s7
  have e10:=hu 10 _ s10
  have e11:=hu 11 _ s11
  have e12:=hu 12 _ s12
  have e15:=hu 15 _ s15
  rw[e2,e4,e6,e7,e10,e11,e12,e15]at ha0
  subst ha0
  clear hu g1 g2 g3 e2 s2 e4 s4 e6 s6 e7 s7 e10 s10 e11 s11 e12 s12 e15 s15
  have HST:=Lib.hid hst
  have HDR:=Lib.hid (HD.out.keep hst.old)
  have hx1:=HDR.out.xbox.cell 1
  rw[show (#[k.phv,k.insv,.int .i64 k.fin.op,.int .i64 k.fin.a,.int .i64 k.fin.b,k.fin.tov,.int .i32 k.fin.imm]:Array Value)[1]? = some k.insv from rfl,HIV.out]at hx1
  have hxl:=HDR.out.xbox.lt
  clear hst
  by_cases hlt:i<il
  ·obtain⟨IB,ioff,x,rfl,hIB,hx,hcx,hxin⟩:=RowIn.at (show RowIn macells 8 MaIn wr (.slice ia il ic) k.ins from by rw[←HIV.out];exact HDR.out.xin.2.1) (by rw[HIL.out];exact hlt)
   have hxm:=List.mem_of_getElem? hx
   have HXG:=Lib.hid (HIG.out x hxm)
   have HXS:=Lib.hid (HIS.out x hxm)
   obtain⟨xm,xav⟩:=x
   have HXA:=Lib.hid (show Ints wr xav xm.args from hxin)
   have HCM:=Lib.hid (fun (w5:World) (hs:Since wr w5)=>show (∀ t,t<8→w5.cell? ⟨IB,ioff+i*8+t,none⟩=(macells ⟨xm,xav⟩)[t]?)∧IB<w5.heap.size from⟨fun t ht=>by rw[hs.cell (p:=⟨IB,ioff+i*8+t,none⟩) hIB];exact hcx t ht,Nat.lt_of_lt_of_le hIB hs.size⟩)
   have HXC:=Lib.hid (fun (w5:World) (hs:Since wr w5)=>show w5.cell? ⟨xq,1,none⟩=some (.slice (some ⟨IB,ioff,none⟩) il ic)∧xq<w5.heap.size from by
    refine⟨?_,(HDR.out.keep hs).xbox.lt⟩
    rw[←HIV.out]
    exact (HDR.out.keep hs).xbox.cell 1)
   have HLB:=Lib.hid (show 0≤(i:Int)∧(i:Int)≤5000 from by omega)
   have HCC:=Lib.hid (show 10+7*i≤100000 from by omega)
   clear hx hxm hxin hcx
   go_upto_region 27 with fail
   clear hx1 hxl hIB
   refine wp_region_since_tail 9 rfl (by decide +kernel) (by decide +kernel) (by decide +kernel) (by decide)
    [Is (.pointer (some ⟨yq,0,none⟩)),Is v,Is (.pointer (some ⟨xq,1,none⟩)),Is (.slice (some ⟨IB,ioff,none⟩) il ic),Is (.int .i64 i),Is (.pointer (some ⟨IB,ioff+i*8,none⟩)),Is (mav ⟨xm,xav⟩),Is (.int .i64 i),GoodRow wY.heap.size S 7]
    (by repeat (first | exact trivial | refine⟨Is.stable _,?_⟩ | refine⟨GoodRow.stable _ _ _,?_⟩)) ⟨?_,?_,?_,?_,?_,?_,?_,?_,?_,trivial⟩ ?_
   rotate_right
   ·intro vs w5 hs hk
    simp only[List.take,List.drop,putAll,Act.put,KnowsAll,nthF,Is,List.setIfInBounds_toArray,List.set_cons_zero,List.set_cons_succ,Nat.reduceAdd]at hk ⊢
    try simp only[hk]
    obtain⟨ys,hyl,hyr,hyg⟩:GoodRow wY.heap.size S 7 (vs 8) w5:=by exact hk.2.2.2.2.2.2.2.2.1
    generalize vs 8=xv at *
    have HY5:=Lib.hid (HST.out.keep hs)
    have HYL:=Lib.hid hyl
    have HYR:=Lib.hid hyr
    have HYG:=Lib.hid hyg
    have HLE:=Lib.hid (show xs.length+ys.length≤1000000 from by have:=HST.out.few;have:=HCC.out;omega)
    clear hk hs hyl hyr hyg
    go_wp2_with (refine wpList_append_rows (base:=wY.heap.size) plcells 9 plcells_len (by decide) rfl _ _ 54 rfl 58 (.agg #[.int .i64 0,.int .i64 0,.int .i64 0,.int .i64 0,.int .i64 0,.int .i64 0,.int .i32 0,.slice none 0 0,.int .i64 0]) 88 Try.underlying54 (by kernel_rfl) rfl (by decide) v xv xs ys rfl rfl HY5.out.row (srcRow plcells_len (by decide) HYR.out) (pl_one HYG.out) HLE.out HY5.out.old.size ?_;intro v' w6 hown ht hnew;obtain⟨va2,vc2,hv2⟩:=own_shape (show w6.ownsRow _ _ _ _ _ _ from hown);obtain⟨l2,hl2⟩:∃ z,(xs++ys).length=z:=⟨_,rfl⟩;rw[hl2]at hv2;subst hv2;have HOWN:=Lib.hid hown;have HT6:=Lib.hid ht;have HNW:=Lib.hid hnew;have hb6:=HY5.out.box.turn ht (own_not HY5.out.row HY5.out.box (by decide));have h6l:=hb6.lt;have h6f:=hb6.frozen;have h6c:=hb6.cell 0;clear hown ht hnew hb6 hl2)
    exact HK9.out (il-(i+1)) _ _ (by omega) ⟨i+1,_,_,rfl,by omega,(frV_mk rfl rfl (sl_cons rfl (sl_cons rfl (sl_cons rfl (sl_cons rfl (sl_cons rfl (sl_cons rfl (sl_cons rfl (sl_cons rfl (sl_nil _)))))))))),HY5.out.put HOWN.out HT6.out HYG.out (by have:=HY5.out.few;have:=HYL.out;omega)⟩
   all_goals
    intro vs w5 hs hk _
    simp only[List.take,putAll,Act.put,Knows,nthF,Is,List.setIfInBounds_toArray,List.set_cons_zero,List.set_cons_succ,Nat.reduceAdd]at hk ⊢
    try simp only[hk]
   ·go_wp2
    exact⟨_,rfl,rfl,Since.refl _⟩
   ·have hbx:HeapIs w5 yq #[v,.int .i64 0,.int .i64 0,.int .i64 0,.slice none 0 0,.int .i32 0] 56:=HST.out.box.keep hs
    have hc:=hbx.cell 0
    have hl:=hbx.lt
    clear hbx
    go_wp2
    exact⟨_,rfl,rfl,Since.refl _⟩
   ·go_wp2
    exact⟨_,rfl,rfl,Since.refl _⟩
   ·obtain⟨hcc,hcl⟩:=HXC.out w5 hs
    clear hk
    go_wp2
    exact⟨_,rfl,rfl,Since.refl _⟩
   ·go_wp2
    exact⟨_,rfl,rfl,Since.refl _⟩
   ·go_wp2
    exact⟨_,rfl,rfl,Since.refl _⟩
   ·obtain⟨hcm,hlm⟩:=HCM.out w5 hs
    clear hk
    have g0:=hcm 0 (by decide)
    have g1:=hcm 1 (by decide)
    have g2:=hcm 2 (by decide)
    have g3:=hcm 3 (by decide)
    have g4:=hcm 4 (by decide)
    have g5:=hcm 5 (by decide)
    have g6:=hcm 6 (by decide)
    have g7:=hcm 7 (by decide)
    replace g0:w5.cell? ⟨IB,ioff+i*8,none⟩=some (.int .i64 xm.op):=g0
    replace g1:w5.cell? ⟨IB,ioff+i*8+1,none⟩=some (.int .i64 xm.d):=g1
    replace g2:w5.cell? ⟨IB,ioff+i*8+2,none⟩=some (.int .i64 xm.e):=g2
    replace g3:w5.cell? ⟨IB,ioff+i*8+3,none⟩=some (.int .i64 xm.a):=g3
    replace g4:w5.cell? ⟨IB,ioff+i*8+4,none⟩=some (.int .i64 xm.b):=g4
    replace g5:w5.cell? ⟨IB,ioff+i*8+5,none⟩=some (.int .i64 xm.c):=g5
    replace g6:w5.cell? ⟨IB,ioff+i*8+6,none⟩=some (.int .i32 xm.imm):=g6
    replace g7:w5.cell? ⟨IB,ioff+i*8+7,none⟩=some (xav):=g7
    clear hcm
    unfold mav
    dsimp only
    go_wp2
    exact⟨_,rfl,rfl,Since.refl _⟩
   ·go_wp2
    exact⟨_,rfl,rfl,Since.refl _⟩
   ·clear hk
    go_wp2_with fail
    refine (naive_any ⟨xm,xav⟩ i w5 S (HXA.out.keep hs) HXG.out HXS.out HG.out.Sle HLB.out).mono ?_
    rintro e w6 ⟨v7,rfl,hv7,hs6⟩
    have hv8:=hv7.low (Nat.le_trans HST.out.old.size hs.size)
    go_wp2
    exact⟨_,rfl,hv8,hs6⟩
  ·obtain rfl:il=i:=by omega
   go_wp2_with fail
   exact HQ.out _ _ v xs (frV_mk rfl rfl (sl_cons rfl (sl_cons rfl (sl_cons rfl (sl_cons rfl (sl_cons rfl (sl_cons rfl (sl_cons rfl (sl_nil _))))))))) (HST.out.more (by have:=HIL.out;omega))
theorem NvD.blk {mq xq:Nat} {params:Int} {bs:List MBlkV} {BB boff n bc:Nat} {k ks:MBlkV} {OB ooff oc:Nat} {ow:List Int} {w : World} (h:NvD mq xq params bs BB boff n bc k OB ooff oc ow w) {s : Nat} (hs:bs[s]? = some ks):(∀ t,t<7→w.cell? ⟨BB,boff+s*7+t,none⟩=(mbcells ks)[t]?)∧BB<w.heap.size∧MBlkIn w ks:=by
 obtain⟨B1,o1,y,he,hB,hy,hcy,hyin⟩:=RowIn.at h.prog (List.getElem?_eq_some_iff.1 hs).1
 cases he
 rw[hs]at hy
 cases hy
 exact⟨hcy,hB,hyin⟩
set_option maxHeartbeats 4000000 in
set_option maxRecDepth 1000000 in
theorem nv_pairs (wY:World) (mq xq rq pq yq:Nat) (params S:Int) (bs:List MBlkV) (BB boff n bc:Nat) (k:MBlkV) (OB ooff oc:Nat) (ow:List Int) (b:Nat) (v0:Value) (xs0:List PlV) (s i:Nat) (ia:Option Addr) (il ic:Nat) (prs:List (Int × Int)) (o:Int) (c:Nat) (a0:Act) (w1:World) (Q0:Exit→Act→World→Prop) (hfr:FrV [(2,.pointer (some ⟨mq,0,none⟩)),(4,.pointer (some ⟨rq,0,none⟩)),(6,.pointer (some ⟨pq,0,none⟩)),(7,.slice (some ⟨OB,ooff,none⟩) n oc),(10,.int .i64 b),(11,.pointer (some ⟨xq,0,none⟩)),(12,.pointer (some ⟨yq,0,none⟩)),(16,.int .i64 s),(17,.int .i64 i),(18,.slice ia il ic),(19,.int .i64 (0:Nat))] a0)
  (hd:NvD mq xq params bs BB boff n bc k OB ooff oc ow wY) (hg:NvG params S bs n ow) (hkb:bs[b]? = some k) (hpr:RowIn prcells 2 (fun _ _=>True) wY (.slice ia il ic) prs) (hil:prs.length=il) (hil9:il≤9) (hval:∀ y∈prs,0≤y.2∧y.2<S) (how:ow[s]? = some o∧0≤o+(i:Int)∧o+(i:Int)<S) (hsn:s<n) (hc5:c≤50000) (hst:NvY S wY c yq v0 xs0 w1)
  (hQ:∀ a1 w2 v2 xs2,FrV [(2,.pointer (some ⟨mq,0,none⟩)),(4,.pointer (some ⟨rq,0,none⟩)),(6,.pointer (some ⟨pq,0,none⟩)),(7,.slice (some ⟨OB,ooff,none⟩) n oc),(10,.int .i64 b),(11,.pointer (some ⟨xq,0,none⟩)),(12,.pointer (some ⟨yq,0,none⟩)),(16,.int .i64 s),(17,.int .i64 i)] a1→NvY S wY (c+18) yq v2 xs2 w2→Q0 .normal a1 w2):Code.wp Try.prog (VCode [1,1,1,1,1,1,1,0,1,0,0,1,0,0,1,1,1,1,1,0,1,0,0,1,0,0,1,0,0,1,0,0,1,1]) Q0 a0 w1:=by
 obtain⟨u,ha0,hu⟩:=frameV_ex hfr
 obtain⟨g1,g2,s2,s4,s6,s7,s10,s11,s12,s16,s17,s18,s19,g3⟩:=hfr
 have e2:=hu 2 _ s2
 have e4:=hu 4 _ s4
 have e6:=hu 6 _ s6
 have e7:=hu 7 _ s7
 have e10:=hu 10 _ s10
 have e11:=hu 11 _ s11
 have e12:=hu 12 _ s12
 have e16:=hu 16 _ s16
 have e17:=hu 17 _ s17
 have e18:=hu 18 _ s18
 have e19:=hu 19 _ s19
 rw[e2,e4,e6,e7,e10,e11,e12,e16,e17,e18,e19]at ha0
 subst ha0
 clear hu g1 g2 g3 e2 s2 e4 s4 e6 s6 e7 s7 e10 s10 e11 s11 e12 s12 e16 s16 e17 s17 e18 s18 e19 s19
 conv=>arg 2;whnf
 have HQ:=Lib.hid hQ
 have HD:=Lib.hid hd
 have HG:=Lib.hid hg
 have HKB:=Lib.hid hkb
 clear hQ hd hg hkb
 have HPR:=Lib.hid hpr
 have HIL:=Lib.hid hil
 have HVL:=Lib.hid hval
 have HOW:=Lib.hid how.1
 have how2:=how.2
 have hbn:s<n:=by
  have h9:s<n:=hsn
  exact h9
 have hn9:=HG.out.n9
 have HSl:=HG.out.Sle
 clear hpr hil hval how hsn
 go_wp2_with fail
 refine wp_loop_fr (fun t ac wr=>∃ (j:Nat) (v:Value) (xs:List PlV),t=il-j∧j≤il∧FrV [(2,.pointer (some ⟨mq,0,none⟩)),(4,.pointer (some ⟨rq,0,none⟩)),(6,.pointer (some ⟨pq,0,none⟩)),(7,.slice (some ⟨OB,ooff,none⟩) n oc),(10,.int .i64 b),(11,.pointer (some ⟨xq,0,none⟩)),(12,.pointer (some ⟨yq,0,none⟩)),(16,.int .i64 s),(17,.int .i64 i),(18,.slice ia il ic),(19,.int .i64 j)] ac∧NvY S wY (c+2*j) yq v xs wr) il ⟨0,_,_,rfl,Nat.zero_le _,(frV_mk rfl rfl (sl_cons rfl (sl_cons rfl (sl_cons rfl (sl_cons rfl (sl_cons rfl (sl_cons rfl (sl_cons rfl (sl_cons rfl (sl_cons rfl (sl_cons rfl (sl_cons rfl (sl_nil _))))))))))))),hst⟩ ?_
 ·clear hst
  intro t a1 wr K hJ hK
  have HK9:=Lib.hid hK
  clear hK
  obtain⟨j,v,xs,rfl,hj,hf,hst⟩:=hJ
  obtain⟨u,ha0,hu⟩:=frameV_ex hf
  obtain⟨g1,g2,s2,s4,s6,s7,s10,s11,s12,s16,s17,s18,s19,g3⟩:=hf
  have e2:=hu 2 _ s2
  have e4:=hu 4 _ s4
  have e6:=hu 6 _ s6
  have e7:=hu 7 _ s7
  have e10:=hu 10 _ s10
  have e11:=hu 11 _ s11
  have e12:=hu 12 _ s12
  have e16:=hu 16 _ s16
  have e17:=hu 17 _ s17
  have e18:=hu 18 _ s18
  have e19:=hu 19 _ s19
  rw[e2,e4,e6,e7,e10,e11,e12,e16,e17,e18,e19]at ha0
  subst ha0
  clear hu g1 g2 g3 e2 s2 e4 s4 e6 s6 e7 s7 e10 s10 e11 s11 e12 s12 e16 s16 e17 s17 e18 s18 e19 s19
  have HST:=Lib.hid hst
  have HDR:=Lib.hid (HD.out.keep hst.old)
  have HPW:=Lib.hid (RowIn.keep (fun _ _ _ _ _=>trivial) HPR.out hst.old)
  clear hst
  by_cases hlt:j<il
  ·obtain⟨IB,ioff,y,rfl,hIB,hy,hcy,_⟩:=RowIn.at HPW.out (by rw[HIL.out];exact hlt)
   have hyv:=HVL.out y (List.mem_of_getElem? hy)
   obtain⟨y1,y2⟩:=y
   dsimp only at hyv
   have hc0:wr.cell? ⟨IB,ioff+j*2,none⟩=some (.int .i64 y1):=hcy 0 (by decide)
   have HPC:=Lib.hid (fun (w5:World) (hs:Since wr w5)=>show w5.cell? ⟨IB,ioff+j*2+1,none⟩=some (.int .i64 y2)∧IB<w5.heap.size from⟨by rw[hs.cell (p:=⟨IB,ioff+j*2+1,none⟩) hIB];exact hcy 1 (by decide),Nat.lt_of_lt_of_le hIB hs.size⟩)
   have HOC:=Lib.hid (fun (w5:World) (hs:Since wr w5)=>show w5.cell? ⟨OB,ooff+s,none⟩=some (.int .i64 o)∧OB<w5.heap.size from (HDR.out.keep hs).ocell HOW.out)
   have HLB:=Lib.hid (show 0≤o+(i:Int)∧o+(i:Int)<100000 from by omega)
   have HLC:=Lib.hid (show 0≤o+(i:Int)∧o+(i:Int)<S from by omega)
   have HLD:=Lib.hid (show 0≤y2∧y2<100000 from by omega)
   have HLE2:=Lib.hid (show 0≤y2∧y2<S from by omega)
   have HCC:=Lib.hid (show c+2*j≤100000 from by omega)
   obtain⟨bq,hbq⟩:∃ z,(y1==(b:Int))=z:=⟨_,rfl⟩
   clear hy hyv hcy how2
   cases bq
   ·go_wp2_with fail
    exact HK9.out (il-(j+1)) _ _ (by omega) ⟨j+1,_,_,rfl,by omega,(frV_mk rfl rfl (sl_cons rfl (sl_cons rfl (sl_cons rfl (sl_cons rfl (sl_cons rfl (sl_cons rfl (sl_cons rfl (sl_cons rfl (sl_cons rfl (sl_cons rfl (sl_cons rfl (sl_nil _))))))))))))),HST.out.more (by omega)⟩
   ·go_upto_region 39 with fail
    clear hc0 hIB hbq
    refine wp_region_since_tail 16 rfl (by decide +kernel) (by decide +kernel) (by decide +kernel) (by decide)
     [Is (.pointer (some ⟨yq,0,none⟩)),Is v,Is (.slice (some ⟨IB,ioff,none⟩) il ic),Is (.int .i64 j),Is (.pointer (some ⟨IB,ioff+j*2,none⟩)),Is (.pointer (some ⟨IB,ioff+j*2+1,none⟩)),Is (.int .i64 y2),Is (.agg #[.int .i64 30,.int .i64 0,.int .i64 0,.int .i64 0,.int .i64 0,.int .i64 0,.int .i32 y2,.slice none 0 0,.int .i64 (-1)]),Is (.slice (some ⟨OB,ooff,none⟩) n oc),Is (.int .i64 s),Is (.pointer (some ⟨OB,ooff+s,none⟩)),Is (.int .i64 o),Is (.int .i64 i),Is (.int .i64 (o+i)),Is (.agg #[.int .i64 31,.int .i64 0,.int .i64 0,.int .i64 0,.int .i64 0,.int .i64 0,.int .i32 (o+i),.slice none 0 0,.int .i64 (-1)]),GoodRow wY.heap.size S 2]
     (by repeat (first | exact trivial | refine⟨Is.stable _,?_⟩ | refine⟨GoodRow.stable _ _ _,?_⟩)) ⟨?_,?_,?_,?_,?_,?_,?_,?_,?_,?_,?_,?_,?_,?_,?_,?_,trivial⟩ ?_
    rotate_right
    ·intro vs w5 hs hk
     simp only[List.take,List.drop,putAll,Act.put,KnowsAll,nthF,Is,List.setIfInBounds_toArray,List.set_cons_zero,List.set_cons_succ,Nat.reduceAdd]at hk ⊢
     try simp only[hk]
     obtain⟨ys,hyl,hyr,hyg⟩:GoodRow wY.heap.size S 2 (vs 15) w5:=by exact hk.2.2.2.2.2.2.2.2.2.2.2.2.2.2.2.1
     generalize vs 15=xv at *
     have HY5:=Lib.hid (HST.out.keep hs)
     have HYL:=Lib.hid hyl
     have HYR:=Lib.hid hyr
     have HYG:=Lib.hid hyg
     have HLE:=Lib.hid (show xs.length+ys.length≤1000000 from by have:=HST.out.few;have:=HCC.out;omega)
     clear hk hs hyl hyr hyg
     go_wp2_with (refine wpList_append_rows (base:=wY.heap.size) plcells 9 plcells_len (by decide) rfl _ _ 54 rfl 58 (.agg #[.int .i64 0,.int .i64 0,.int .i64 0,.int .i64 0,.int .i64 0,.int .i64 0,.int .i32 0,.slice none 0 0,.int .i64 0]) 88 Try.underlying54 (by kernel_rfl) rfl (by decide) v xv xs ys rfl rfl HY5.out.row (srcRow plcells_len (by decide) HYR.out) (pl_one HYG.out) HLE.out HY5.out.old.size ?_;intro v' w6 hown ht hnew;obtain⟨va2,vc2,hv2⟩:=own_shape (show w6.ownsRow _ _ _ _ _ _ from hown);obtain⟨l2,hl2⟩:∃ z,(xs++ys).length=z:=⟨_,rfl⟩;rw[hl2]at hv2;subst hv2;have HOWN:=Lib.hid hown;have HT6:=Lib.hid ht;have HNW:=Lib.hid hnew;have hb6:=HY5.out.box.turn ht (own_not HY5.out.row HY5.out.box (by decide));have h6l:=hb6.lt;have h6f:=hb6.frozen;have h6c:=hb6.cell 0;clear hown ht hnew hb6 hl2)
     exact HK9.out (il-(j+1)) _ _ (by omega) ⟨j+1,_,_,rfl,by omega,(frV_mk rfl rfl (sl_cons rfl (sl_cons rfl (sl_cons rfl (sl_cons rfl (sl_cons rfl (sl_cons rfl (sl_cons rfl (sl_cons rfl (sl_cons rfl (sl_cons rfl (sl_cons rfl (sl_nil _))))))))))))),HY5.out.put HOWN.out HT6.out HYG.out (by have:=HY5.out.few;have:=HYL.out;omega)⟩
    all_goals
     intro vs w5 hs hk _
     simp only[List.take,putAll,Act.put,Knows,nthF,Is,List.setIfInBounds_toArray,List.set_cons_zero,List.set_cons_succ,Nat.reduceAdd]at hk ⊢
     try simp only[hk]
    ·go_wp2
     exact⟨_,rfl,rfl,Since.refl _⟩
    ·have hbx:HeapIs w5 yq #[v,.int .i64 0,.int .i64 0,.int .i64 0,.slice none 0 0,.int .i32 0] 56:=HST.out.box.keep hs
     have hc:=hbx.cell 0
     have hl:=hbx.lt
     clear hbx
     go_wp2
     exact⟨_,rfl,rfl,Since.refl _⟩
    ·go_wp2
     exact⟨_,rfl,rfl,Since.refl _⟩
    ·go_wp2
     exact⟨_,rfl,rfl,Since.refl _⟩
    ·go_wp2
     exact⟨_,rfl,rfl,Since.refl _⟩
    ·go_wp2
     exact⟨_,rfl,rfl,Since.refl _⟩
    ·obtain⟨hcc,hcl⟩:=HPC.out w5 hs
     clear hk
     go_wp2
     exact⟨_,rfl,rfl,Since.refl _⟩
    ·clear hk
     go_wp2_with fail
     refine (laid30_any 0 y2 w5 (by decide) HLD.out).mono ?_
     rintro e w6 ⟨rfl,hs6⟩
     go_wp2
     exact⟨_,rfl,rfl,hs6⟩
    ·go_wp2
     exact⟨_,rfl,rfl,Since.refl _⟩
    ·go_wp2
     exact⟨_,rfl,rfl,Since.refl _⟩
    ·go_wp2
     exact⟨_,rfl,rfl,Since.refl _⟩
    ·obtain⟨hcc,hcl⟩:=HOC.out w5 hs
     clear hk
     go_wp2
     exact⟨_,rfl,rfl,Since.refl _⟩
    ·go_wp2
     exact⟨_,rfl,rfl,Since.refl _⟩
    ·have h9:=HLB.out
     go_wp2
     exact⟨_,rfl,rfl,Since.refl _⟩
    ·clear hk
     go_wp2_with fail
     refine (laid31_any 0 (o+i) w5 (by decide) HLB.out).mono ?_
     rintro e w6 ⟨rfl,hs6⟩
     go_wp2
     exact⟨_,rfl,rfl,hs6⟩
    ·clear hk
     go_wp2
     exact⟨_,rfl,⟨[laidP 30 0 y2,laidP 31 0 (o+i)],Nat.le_refl 2,row3031 (HeapIs.new _ _ _),fun y hy=>by
   rcases List.mem_cons.1 hy with hy|hy
   ·rw[hy];exact PlNew.laid (.inl rfl) (by decide) HLE2.out HG.out.Sle
   ·rw[List.mem_singleton.1 hy];exact PlNew.laid (.inr rfl) (by decide) HLC.out HG.out.Sle⟩,(Since.refl _).alloc _⟩
  ·obtain rfl:il=j:=by omega
   go_wp2_with fail
   exact HQ.out _ _ v xs (frV_mk rfl rfl (sl_cons rfl (sl_cons rfl (sl_cons rfl (sl_cons rfl (sl_cons rfl (sl_cons rfl (sl_cons rfl (sl_cons rfl (sl_cons rfl (sl_nil _))))))))))) (HST.out.more (by omega))
set_option maxHeartbeats 4000000 in
set_option maxRecDepth 1000000 in
theorem nv_pairs2 (wY:World) (mq xq rq pq yq:Nat) (params S:Int) (bs:List MBlkV) (BB boff n bc:Nat) (k:MBlkV) (OB ooff oc:Nat) (ow:List Int) (b:Nat) (v0:Value) (xs0:List PlV) (s:Nat) (ks:MBlkV) (c:Nat) (a0:Act) (w1:World) (Q0:Exit→Act→World→Prop) (hfr:FrV [(2,.pointer (some ⟨mq,0,none⟩)),(4,.pointer (some ⟨rq,0,none⟩)),(6,.pointer (some ⟨pq,0,none⟩)),(7,.slice (some ⟨OB,ooff,none⟩) n oc),(10,.int .i64 b),(11,.pointer (some ⟨xq,0,none⟩)),(12,.pointer (some ⟨yq,0,none⟩)),(16,.int .i64 s),(17,.int .i64 (0:Nat))] a0)
  (hd:NvD mq xq params bs BB boff n bc k OB ooff oc ow wY) (hg:NvG params S bs n ow) (hkb:bs[b]? = some k) (hks:bs[s]? = some ks) (hc4:c≤40000) (hst:NvY S wY c yq v0 xs0 w1)
  (hQ:∀ a1 w2 v2 xs2,FrV [(2,.pointer (some ⟨mq,0,none⟩)),(4,.pointer (some ⟨rq,0,none⟩)),(6,.pointer (some ⟨pq,0,none⟩)),(7,.slice (some ⟨OB,ooff,none⟩) n oc),(10,.int .i64 b),(11,.pointer (some ⟨xq,0,none⟩)),(12,.pointer (some ⟨yq,0,none⟩)),(16,.int .i64 s)] a1→NvY S wY (c+54) yq v2 xs2 w2→Q0 .normal a1 w2):Code.wp Try.prog (VCode [1,1,1,1,1,1,1,0,1,0,0,1,0,0,1,1,1,1,1,0,1,0,0,1,0,0,1]) Q0 a0 w1:=by
 obtain⟨u,ha0,hu⟩:=frameV_ex hfr
 obtain⟨g1,g2,s2,s4,s6,s7,s10,s11,s12,s16,s17,g3⟩:=hfr
 have e2:=hu 2 _ s2
 have e4:=hu 4 _ s4
 have e6:=hu 6 _ s6
 have e7:=hu 7 _ s7
 have e10:=hu 10 _ s10
 have e11:=hu 11 _ s11
 have e12:=hu 12 _ s12
 have e16:=hu 16 _ s16
 have e17:=hu 17 _ s17
 rw[e2,e4,e6,e7,e10,e11,e12,e16,e17]at ha0
 subst ha0
 clear hu g1 g2 g3 e2 s2 e4 s4 e6 s6 e7 s7 e10 s10 e11 s11 e12 s12 e16 s16 e17 s17
 conv=>arg 2;whnf
 have HQ:=Lib.hid hQ
 have HD:=Lib.hid hd
 have HG:=Lib.hid hg
 have HKB:=Lib.hid hkb
 clear hQ hd hg hkb
 have hkm:=HG.out.each ks (List.mem_of_getElem? hks)
 obtain⟨o,hob,ho0,hoS⟩:=HG.out.own s ks hks
 have HOB:=Lib.hid hob
 have hsn:s<n:=by have h9:=(List.getElem?_eq_some_iff.1 hks).1;rw[HG.out.len]at h9;exact h9
 have hn9:=HG.out.n9
 have HPH:=Lib.hid hkm.1.phis
 have HVB:=Lib.hid hkm.2.1.val
 have hpl3:=hkm.1.few
 have HBK:=Lib.hid (HD.out.blk hks)
 obtain⟨pa,pc,hpv,_⟩:=RowIn.shape (show RowIn fpcells 2 FPhiIn wY ks.phv ks.phis from HBK.out.2.2.1)
 obtain⟨pl,hpl⟩:∃ z,ks.phis.length=z:=⟨_,rfl⟩
 rw[hpl]at hpv hpl3 hoS
 have HPL:=Lib.hid hpl
 have HPV:=Lib.hid hpv
 have HKS:=Lib.hid hks
 clear hob hkm hpv hpl hks
 go_wp2_with fail
 refine wp_loop_fr (fun t ac wr=>∃ (i:Nat) (v:Value) (xs:List PlV),t=pl-i∧i≤pl∧FrV [(2,.pointer (some ⟨mq,0,none⟩)),(4,.pointer (some ⟨rq,0,none⟩)),(6,.pointer (some ⟨pq,0,none⟩)),(7,.slice (some ⟨OB,ooff,none⟩) n oc),(10,.int .i64 b),(11,.pointer (some ⟨xq,0,none⟩)),(12,.pointer (some ⟨yq,0,none⟩)),(16,.int .i64 s),(17,.int .i64 i)] ac∧NvY S wY (c+18*i) yq v xs wr) pl ⟨0,_,_,rfl,Nat.zero_le _,(frV_mk rfl rfl (sl_cons rfl (sl_cons rfl (sl_cons rfl (sl_cons rfl (sl_cons rfl (sl_cons rfl (sl_cons rfl (sl_cons rfl (sl_cons rfl (sl_nil _))))))))))),hst⟩ ?_
 ·clear hst
  intro t a1 wr K hJ hK
  have HK9:=Lib.hid hK
  clear hK
  obtain⟨i,v,xs,rfl,hi,hf,hst⟩:=hJ
  obtain⟨u,ha0,hu⟩:=frameV_ex hf
  obtain⟨g1,g2,s2,s4,s6,s7,s10,s11,s12,s16,s17,g3⟩:=hf
  have e2:=hu 2 _ s2
  have e4:=hu 4 _ s4
  have e6:=hu 6 _ s6
  have e7:=hu 7 _ s7
  have e10:=hu 10 _ s10
  have e11:=hu 11 _ s11
  have e12:=hu 12 _ s12
  have e16:=hu 16 _ s16
  have e17:=hu 17 _ s17
  rw[e2,e4,e6,e7,e10,e11,e12,e16,e17]at ha0
  subst ha0
  clear hu g1 g2 g3 e2 s2 e4 s4 e6 s6 e7 s7 e10 s10 e11 s11 e12 s12 e16 s16 e17 s17
  have HST:=Lib.hid hst
  have hdr:=HD.out.keep hst.old
  have hm1:=hdr.mbox.cell 1
  have hml:=hdr.mbox.lt
  have hBB:BB<wr.heap.size:=Nat.lt_of_lt_of_le HBK.out.2.1 hst.old.size
  have hb0:wr.cell? ⟨BB,boff+s*7,none⟩=some (.slice pa pl pc):=by
   rw[hst.old.cell (p:=⟨BB,boff+s*7,none⟩) HBK.out.2.1,←HPV.out]
   exact HBK.out.1 0 (by decide)
  clear hdr
  by_cases hlt:i<pl
  ·obtain⟨PB,poff,y,rfl,hPB,hy,hcP,hyin⟩:=RowIn.at (show RowIn fpcells 2 FPhiIn wY (.slice pa pl pc) ks.phis from by rw[←HPV.out];exact HBK.out.2.2.1) (by rw[HPL.out];exact hlt)
   obtain⟨dst,ins,inv⟩:=y
   have hym:=List.mem_of_getElem? hy
   obtain⟨_,hi9,hpq⟩:=HPH.out _ hym
   have hvb:=HVB.out _ hym
   dsimp only at hi9 hpq hvb
   obtain⟨ia,ic,hiv,_⟩:=RowIn.shape (show RowIn prcells 2 (fun _ _=>True) wY inv ins from hyin)
   obtain⟨il,hil⟩:∃ z,ins.length=z:=⟨_,rfl⟩
   rw[hil]at hiv hi9
   subst hiv
   have HIN:=Lib.hid (show RowIn prcells 2 (fun _ _=>True) wY (.slice ia il ic) ins from hyin)
   have HVL:=Lib.hid (show ∀ y∈ins,0≤y.2∧y.2<S from fun y h=>⟨(hpq y h).2.1,hvb y h⟩)
   have HIL:=Lib.hid hil
   have hp1:wr.cell? ⟨PB,poff+i*2+1,none⟩=some (.slice ia il ic):=by
    rw[hst.old.cell (p:=⟨PB,poff+i*2+1,none⟩) hPB]
    exact hcP 1 (by decide)
   have hPW:PB<wr.heap.size:=Nat.lt_of_lt_of_le hPB hst.old.size
   clear hy hym hpq hvb hcP hyin hst hPB hil
   go_upto_block 14 with fail
   refine nv_pairs wY mq xq rq pq yq params S bs BB boff n bc k OB ooff oc ow b v xs s i ia il ic ins o (c+18*i) _ _ _ (frV_mk rfl rfl (sl_cons rfl (sl_cons rfl (sl_cons rfl (sl_cons rfl (sl_cons rfl (sl_cons rfl (sl_cons rfl (sl_cons rfl (sl_cons rfl (sl_cons rfl (sl_cons rfl (sl_nil _))))))))))))) HD.out HG.out HKB.out HIN.out HIL.out hi9 HVL.out ⟨HOB.out,by omega,by omega⟩ hsn (by omega) HST.out ?_
   clear hm1 hml hBB hb0 hp1 hPW HST
   intro a1 w2 v2 xs2 hf hst
   obtain⟨u,ha0,hu⟩:=frameV_ex hf
   obtain⟨g1,g2,s2,s4,s6,s7,s10,s11,s12,s16,s17,g3⟩:=hf
   have e2:=hu 2 _ s2
   have e4:=hu 4 _ s4
   have e6:=hu 6 _ s6
   have e7:=hu 7 _ s7
   have e10:=hu 10 _ s10
   have e11:=hu 11 _ s11
   have e12:=hu 12 _ s12
   have e16:=hu 16 _ s16
   have e17:=hu 17 _ s17
   rw[e2,e4,e6,e7,e10,e11,e12,e16,e17]at ha0
   subst ha0
   clear hu g1 g2 g3 e2 s2 e4 s4 e6 s6 e7 s7 e10 s10 e11 s11 e12 s12 e16 s16 e17 s17
   have HST:=Lib.hid hst
   clear hst
   go_wp2_with fail
   exact HK9.out (pl-(i+1)) _ _ (by omega) ⟨i+1,_,_,rfl,by omega,(frV_mk rfl rfl (sl_cons rfl (sl_cons rfl (sl_cons rfl (sl_cons rfl (sl_cons rfl (sl_cons rfl (sl_cons rfl (sl_cons rfl (sl_cons rfl (sl_nil _))))))))))),HST.out.more (by omega)⟩
  ·obtain rfl:pl=i:=by omega
   clear hst
   go_wp2_with fail
   exact HQ.out _ _ v xs (frV_mk rfl rfl (sl_cons rfl (sl_cons rfl (sl_cons rfl (sl_cons rfl (sl_cons rfl (sl_cons rfl (sl_cons rfl (sl_cons rfl (sl_nil _)))))))))) (HST.out.more (by omega))
set_option maxHeartbeats 4000000 in
set_option maxRecDepth 1000000 in
theorem nv_pairs3 (wY:World) (mq xq rq pq yq:Nat) (params S:Int) (bs:List MBlkV) (BB boff n bc:Nat) (k:MBlkV) (OB ooff oc:Nat) (ow:List Int) (b:Nat) (v0:Value) (xs0:List PlV) (c:Nat) (a0:Act) (w1:World) (Q0:Exit→Act→World→Prop) (hfr:FrV [(2,.pointer (some ⟨mq,0,none⟩)),(4,.pointer (some ⟨rq,0,none⟩)),(6,.pointer (some ⟨pq,0,none⟩)),(7,.slice (some ⟨OB,ooff,none⟩) n oc),(10,.int .i64 b),(11,.pointer (some ⟨xq,0,none⟩)),(12,.pointer (some ⟨yq,0,none⟩)),(16,.int .i64 (0:Nat))] a0)
  (hd:NvD mq xq params bs BB boff n bc k OB ooff oc ow wY) (hg:NvG params S bs n ow) (hkb:bs[b]? = some k) (hc3:c≤30000) (hst:NvY S wY c yq v0 xs0 w1)
  (hQ:∀ a1 w2 v2 xs2,FrV [(2,.pointer (some ⟨mq,0,none⟩)),(4,.pointer (some ⟨rq,0,none⟩)),(6,.pointer (some ⟨pq,0,none⟩)),(7,.slice (some ⟨OB,ooff,none⟩) n oc),(10,.int .i64 b),(11,.pointer (some ⟨xq,0,none⟩)),(12,.pointer (some ⟨yq,0,none⟩))] a1→NvY S wY (c+486) yq v2 xs2 w2→Q0 .normal a1 w2):Code.wp Try.prog (VCode [1,1,1,1,1,1,1,0,1,0,0,1,0,0,1,1,1,1,1,0,1]) Q0 a0 w1:=by
 obtain⟨u,ha0,hu⟩:=frameV_ex hfr
 obtain⟨g1,g2,s2,s4,s6,s7,s10,s11,s12,s16,g3⟩:=hfr
 have e2:=hu 2 _ s2
 have e4:=hu 4 _ s4
 have e6:=hu 6 _ s6
 have e7:=hu 7 _ s7
 have e10:=hu 10 _ s10
 have e11:=hu 11 _ s11
 have e12:=hu 12 _ s12
 have e16:=hu 16 _ s16
 rw[e2,e4,e6,e7,e10,e11,e12,e16]at ha0
 subst ha0
 clear hu g1 g2 g3 e2 s2 e4 s4 e6 s6 e7 s7 e10 s10 e11 s11 e12 s12 e16 s16
 conv=>arg 2;whnf
 have HQ:=Lib.hid hQ
 have HD:=Lib.hid hd
 have HG:=Lib.hid hg
 have HKB:=Lib.hid hkb
 clear hQ hd hg hkb
 have hn9:=HG.out.n9
 go_wp2_with fail
 refine wp_loop_fr (fun t ac wr=>∃ (i:Nat) (v:Value) (xs:List PlV),t=n-i∧i≤n∧FrV [(2,.pointer (some ⟨mq,0,none⟩)),(4,.pointer (some ⟨rq,0,none⟩)),(6,.pointer (some ⟨pq,0,none⟩)),(7,.slice (some ⟨OB,ooff,none⟩) n oc),(10,.int .i64 b),(11,.pointer (some ⟨xq,0,none⟩)),(12,.pointer (some ⟨yq,0,none⟩)),(16,.int .i64 i)] ac∧NvY S wY (c+54*i) yq v xs wr) n ⟨0,_,_,rfl,Nat.zero_le _,(frV_mk rfl rfl (sl_cons rfl (sl_cons rfl (sl_cons rfl (sl_cons rfl (sl_cons rfl (sl_cons rfl (sl_cons rfl (sl_cons rfl (sl_nil _)))))))))),hst⟩ ?_
 ·clear hst
  intro t a1 wr K hJ hK
  have HK9:=Lib.hid hK
  clear hK
  obtain⟨i,v,xs,rfl,hi,hf,hst⟩:=hJ
  obtain⟨u,ha0,hu⟩:=frameV_ex hf
  obtain⟨g1,g2,s2,s4,s6,s7,s10,s11,s12,s16,g3⟩:=hf
  have e2:=hu 2 _ s2
  have e4:=hu 4 _ s4
  have e6:=hu 6 _ s6
  have e7:=hu 7 _ s7
  have e10:=hu 10 _ s10
  have e11:=hu 11 _ s11
  have e12:=hu 12 _ s12
  have e16:=hu 16 _ s16
  rw[e2,e4,e6,e7,e10,e11,e12,e16]at ha0
  subst ha0
  clear hu g1 g2 g3 e2 s2 e4 s4 e6 s6 e7 s7 e10 s10 e11 s11 e12 s12 e16 s16
  have HST:=Lib.hid hst
  have hdr:=HD.out.keep hst.old
  have hm1:=hdr.mbox.cell 1
  have hml:=hdr.mbox.lt
  clear hdr hst
  by_cases hlt:i<n
  ·obtain⟨ks,hks⟩:∃ ks,bs[i]? = some ks:=⟨_,List.getElem?_eq_getElem (by rw[HG.out.len];exact hlt)⟩
   have HKS:=Lib.hid hks
   clear hks
   go_upto_block 12 with fail
   refine nv_pairs2 wY mq xq rq pq yq params S bs BB boff n bc k OB ooff oc ow b v xs i ks (c+54*i) _ _ _ (frV_mk rfl rfl (sl_cons rfl (sl_cons rfl (sl_cons rfl (sl_cons rfl (sl_cons rfl (sl_cons rfl (sl_cons rfl (sl_cons rfl (sl_cons rfl (sl_nil _))))))))))) HD.out HG.out HKB.out HKS.out (by omega) HST.out ?_
   clear hm1 hml HST
   intro a1 w2 v2 xs2 hf hst
   obtain⟨u,ha0,hu⟩:=frameV_ex hf
   obtain⟨g1,g2,s2,s4,s6,s7,s10,s11,s12,s16,g3⟩:=hf
   have e2:=hu 2 _ s2
   have e4:=hu 4 _ s4
   have e6:=hu 6 _ s6
   have e7:=hu 7 _ s7
   have e10:=hu 10 _ s10
   have e11:=hu 11 _ s11
   have e12:=hu 12 _ s12
   have e16:=hu 16 _ s16
   rw[e2,e4,e6,e7,e10,e11,e12,e16]at ha0
   subst ha0
   clear hu g1 g2 g3 e2 s2 e4 s4 e6 s6 e7 s7 e10 s10 e11 s11 e12 s12 e16 s16
   have HST:=Lib.hid hst
   clear hst
   go_wp2_with fail
   exact HK9.out (n-(i+1)) _ _ (by omega) ⟨i+1,_,_,rfl,by omega,(frV_mk rfl rfl (sl_cons rfl (sl_cons rfl (sl_cons rfl (sl_cons rfl (sl_cons rfl (sl_cons rfl (sl_cons rfl (sl_cons rfl (sl_nil _)))))))))),HST.out.more (by omega)⟩
  ·obtain rfl:n=i:=by omega
   go_wp2_with fail
   exact HQ.out _ _ v xs (frV_mk rfl rfl (sl_cons rfl (sl_cons rfl (sl_cons rfl (sl_cons rfl (sl_cons rfl (sl_cons rfl (sl_cons rfl (sl_nil _))))))))) (HST.out.more (by omega))
end Go.Proofs.Ytkpbmbhejpmboaa
