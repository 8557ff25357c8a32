/- jacquardref03.Turned: two instructions change places. -/
import Derived.Test.YtmhojfpidedjeaaGreatDoorTq08
namespace Go.Proofs.YtmhojfpidedjeaaGreatDoor
open Go.RowKit
set_option linter.unusedVariables false
set_option maxHeartbeats 4000000 in
set_option maxRecDepth 1000000 in
theorem tn_way9 (w0:World) (N:Nat) (X:FBlk):TnWay w0 N X 9:=by
 intro fb rq bb nb bc qx bl p phv inv bi n i a0 w1 Q0 hfr hX hO hN hp hn hi hs hQ
 obtain⟨u,ha0,hu⟩:=frameTn_ex hfr
 obtain⟨g1,g2,s2,s4,s5,s8,s9,s10,s11,s60,g3⟩:=hfr
 have e2:=hu 2 _ s2
 have e4:=hu 4 _ s4
 have e5:=hu 5 _ s5
 have e8:=hu 8 _ s8
 have e9:=hu 9 _ s9
 have e10:=hu 10 _ s10
 have e11:=hu 11 _ s11
 have e60:=hu 60 _ s60
 rw[e2,e4,e5,e8,e9,e10,e11,e60]at ha0
 subst ha0
 clear hu g1 g2 g3 e2 s2 e4 s4 e5 s5 e8 s8 e9 s9 e10 s10 e11 s11 e60 s60
 conv=>arg 2;whnf
 obtain⟨xph,xphv,xin,xinv,⟨kd,ar,av,tg,tv,im⟩⟩:=X
 obtain⟨pa,pc,e1⟩:=OwnRow.shape hs.phis
 obtain⟨ia,ic,e2⟩:=OwnRow.shape hs.ins
 obtain⟨np,hnp⟩:∃ n,xph.length=n:=⟨_,rfl⟩
 obtain⟨ni,hni⟩:∃ n,xin.length=n:=⟨_,rfl⟩
 replace e1:phv=.slice pa np pc:=by rw[←hnp];exact e1
 replace e2:inv=.slice ia ni ic:=by rw[←hni];exact e2
 subst e1 e2
 have HQ:=Lib.hid hQ
 have HX:=Lib.hid hX
 have HO:=Lib.hid hO
 have HP:=Lib.hid hp
 have HS:=Lib.hid hs
 have HNP:=Lib.hid hnp
 have HNI:=Lib.hid hni
 have hil:0<ni→i<ni:=by rw[←hni];exact hi
 have hNI:=hO.len
 replace hNI:ni≤700:=by rw[←hni];exact hNI
 have hNP:=hO.phis.1
 replace hNP:np≤3+N:=by rw[←hnp];exact hNP
 have hx:=hs.xbox
 have z0:=hx.cell 0
 have z1:=hx.cell 1
 have z2:=hx.cell 2
 have z4:=hx.cell 4
 have zf:=hx.frozen
 have zl:=hx.lt
 clear hQ hX hO hp hs hnp hni hx hi
 dsimp only at z0 z1 z2 z4
 by_cases h0:1<ni
 ·have h00:0<ni:=by omega
  have hin:i<ni:=hil h00
  obtain⟨ib,ic2,e,hic,_,_,il9,_,ifz⟩:=own_where HS.out.ins (by rw[HNI.out];exact h00)
  rw[HNI.out]at e hic
  cases e
  obtain⟨y,hy⟩:∃ y,xin[i]? = some y:=⟨_,List.getElem?_eq_getElem (by rw[HNI.out];exact hin)⟩
  have HYC:=Lib.hid (own_at ficells_len HS.out.ins hy)
  have HY:=Lib.hid hy
  clear hy
  obtain⟨x,hx⟩:∃ x,xin[0]? = some x:=⟨_,List.getElem?_eq_getElem (by rw[HNI.out];exact h00)⟩
  have HXE:=Lib.hid hx
  have HXC:=Lib.hid (own_at ficells_len HS.out.ins hx)
  clear hx
  obtain⟨xop,xdst,xtwo,xargs,xav,ximm⟩:=x
  obtain⟨yop,ydst,ytwo,yargs,yav,yimm⟩:=y
  obtain⟨xa,xc,exv⟩:=nums_lenI (show Ints w0 xav xargs from row_all HX.out.2.1 _ (List.mem_of_getElem? HXE.out))
  obtain⟨ya,yc,eyv⟩:=nums_lenI (show Ints w0 yav yargs from row_all HX.out.2.1 _ (List.mem_of_getElem? HY.out))
  obtain⟨xl,hxl⟩:∃ n,xargs.length=n:=⟨_,rfl⟩
  obtain⟨yl0,hyl0⟩:∃ n,yargs.length=n:=⟨_,rfl⟩
  rw[hxl]at exv
  rw[hyl0]at eyv
  subst exv eyv
  clear hxl hyl0
  have d0:w1.cell? ⟨ib,0,none⟩=some (.int .i64 xop):=HXC.out 0 (by decide)
  have d1:w1.cell? ⟨ib,1,none⟩=some (.int .i64 xdst):=HXC.out 1 (by decide)
  have d2:w1.cell? ⟨ib,2,none⟩=some (.int .i64 xtwo):=HXC.out 2 (by decide)
  have d3:w1.cell? ⟨ib,3,none⟩=some (.slice xa xl xc):=HXC.out 3 (by decide)
  have d4:w1.cell? ⟨ib,4,none⟩=some (.int .i32 ximm):=HXC.out 4 (by decide)
  go_upto_region 48 with fail
  obtain⟨yb,hyb⟩:∃ q,w1.heap.size=q:=⟨_,rfl⟩
  obtain⟨w2,hw2⟩:∃ z,w1.alloc (.cells #[.int .i64 xop,.int .i64 xdst,.int .i64 xtwo,.slice xa xl xc,.int .i32 ximm] 51)=z:=⟨_,rfl⟩
  have hs2:Since w1 w2:=by rw[←hw2];exact (Since.refl _).alloc _
  have HYB:=Lib.hid (show HeapIs w2 yb #[.int .i64 xop,.int .i64 xdst,.int .i64 xtwo,.slice xa xl xc,.int .i32 ximm] 51 from by rw[←hw2,←hyb];exact HeapIs.new _ _ _)
  have HNE:=Lib.hid (show ib<yb from by rw[←hyb];exact il9)
  rw[hw2]
  try rw[hyb]
  have HS2:=Lib.hid (HS.out.keep hs2)
  clear hw2 hyb hs2 d0 d1 d2 d3 d4 z0 z1 z2 z4 zf zl il9 ifz HXC HYC
  refine wp_region_since_tail 7 rfl (by decide +kernel) (by decide +kernel) (by decide +kernel) (by decide)
   [Is (.pointer (some ⟨qx,1,none⟩)),Is (.slice (some ⟨ib,0,none⟩) ni ic),Is (.pointer (some ⟨qx,1,none⟩)),Is (.slice (some ⟨ib,0,none⟩) ni ic),Is (.int .i64 (i:Int)),Is (.pointer (some ⟨ib,i*5,none⟩)),Is (.agg #[.int .i64 yop,.int .i64 ydst,.int .i64 ytwo,.slice ya yl0 yc,.int .i32 yimm])]
   (by repeat (first | exact trivial | refine⟨Is.stable _,?_⟩ | refine⟨IsNums.stable _ _,?_⟩ | refine⟨IsRows.stable _ _,?_⟩)) ⟨?_,?_,?_,?_,?_,?_,?_,trivial⟩ ?_
  all_goals
   intro vs w8 hs hk
   try intro _
   simp only[List.take,List.drop,putAll,Act.put,Knows,KnowsAll,nthF,Is,List.setIfInBounds_toArray,List.set_cons_zero,List.set_cons_succ,Nat.reduceAdd]at hk ⊢
   try simp only[hk]
  ·go_wp2
   exact⟨_,rfl,rfl,Since.refl _⟩
  ·have hb:=(HS2.out.keep hs).xbox
   have y1:=hb.cell 1
   have yl:=hb.lt
   clear hb
   go_wp2
   exact⟨_,rfl,rfl,Since.refl _⟩
  ·go_wp2
   exact⟨_,rfl,rfl,Since.refl _⟩
  ·have hb:=(HS2.out.keep hs).xbox
   have y1:=hb.cell 1
   have yl:=hb.lt
   clear hb
   go_wp2
   exact⟨_,rfl,rfl,Since.refl _⟩
  ·go_wp2
   exact⟨_,rfl,rfl,Since.refl _⟩
  ·go_wp2
   exact⟨_,rfl,rfl,Since.refl _⟩
  ·have ycs:=own_at ficells_len (HS2.out.keep hs).ins HY.out
   have e0:w8.cell? ⟨ib,i*5,none⟩=some (.int .i64 yop):=ycs 0 (by decide)
   have e1:w8.cell? ⟨ib,i*5+1,none⟩=some (.int .i64 ydst):=ycs 1 (by decide)
   have e2:w8.cell? ⟨ib,i*5+2,none⟩=some (.int .i64 ytwo):=ycs 2 (by decide)
   have e3:w8.cell? ⟨ib,i*5+3,none⟩=some (.slice ya yl0 yc):=ycs 3 (by decide)
   have e4:w8.cell? ⟨ib,i*5+4,none⟩=some (.int .i32 yimm):=ycs 4 (by decide)
   have yl:=(World.ownsRow.lt (HS2.out.keep hs).ins ib rfl).2
   clear ycs
   go_wp2
   exact⟨_,rfl,rfl,Since.refl _⟩
  ·have HS8:=Lib.hid (HS2.out.keep hs)
   have HYB8:=Lib.hid (HYB.out.keep hs)
   clear hs hk
   have hb:=HS8.out.xbox
   have y1:=hb.cell 1
   have yl:=hb.lt
   clear hb
   go_upto_region 49 with (refine wpList_store_mid rfl 51 _ _ rfl ib 0 #[.int .i64 yop,.int .i64 ydst,.int .i64 ytwo,.slice ya yl0 yc,.int .i32 yimm] rfl rfl (own_thereR ficells_len HS8.out.ins (j:=0) (by omega)) (by kernel_rfl) (all_oneCell_toArray (fi_one (row_all HX.out.2.1 _ (List.mem_of_getElem? HY.out)))) ?_)
   obtain⟨w9,hw9⟩:∃ z,w8.setCells ib 0 [.int .i64 yop,.int .i64 ydst,.int .i64 ytwo,.slice ya yl0 yc,.int .i32 yimm]=z:=⟨_,rfl⟩
   have t9:Turn (fun q=>some ib=some q) w8 w9:=by rw[←hw9];exact setCells_turn (S:=fun q=>some ib=some q) (g:=ib) rfl _ _ _
   have HS9:=Lib.hid (HS8.out.inTurn (by rw[←hw9];exact own_setRow ficells_len HS8.out.ins HXE.out (⟨yop,ydst,ytwo,yargs,.slice ya yl0 yc,yimm⟩:FIns)) t9)
   have HYB9:=Lib.hid (HYB8.out.turn t9 (fun e=>by have:=HNE.out;have:=Option.some.inj e;omega))
   try simp only[hw9]
   clear hw9 t9 y1 yl
   obtain⟨y',hy'⟩:∃ z,(xin.set 0 (⟨yop,ydst,ytwo,yargs,.slice ya yl0 yc,yimm⟩:FIns))[i]? = some z:=⟨_,List.getElem?_eq_getElem (by rw[List.length_set,HNI.out];exact hin)⟩
   have HY9:=Lib.hid hy'
   clear hy'
   have hb:=HS9.out.xbox
   have y1:=hb.cell 1
   have yl:=hb.lt
   have hb2:=HYB9.out
   have g0:=hb2.cell 0
   have g1:=hb2.cell 1
   have g2:=hb2.cell 2
   have g3:=hb2.cell 3
   have g4:=hb2.cell 4
   have gl:=hb2.lt
   clear hb hb2
   go_wp2_with (refine wpList_store_mid rfl 51 _ _ rfl ib (i*5) #[.int .i64 xop,.int .i64 xdst,.int .i64 xtwo,.slice xa xl xc,.int .i32 ximm] rfl rfl (own_thereR ficells_len HS9.out.ins hin) (by kernel_rfl) (all_oneCell_toArray (fi_one (row_all HX.out.2.1 _ (List.mem_of_getElem? HXE.out)))) ?_)
   have h2:=HS9.out.inTurn (own_setRow ficells_len HS9.out.ins HY9.out (⟨xop,xdst,xtwo,xargs,.slice xa xl xc,ximm⟩:FIns)) (setCells_turn (S:=fun q=>some ib=some q) rfl (ficells (⟨xop,xdst,xtwo,xargs,.slice xa xl xc,ximm⟩:FIns)) (i*5) w9)
   have hmem:∀ z∈(xin.set 0 (⟨yop,ydst,ytwo,yargs,.slice ya yl0 yc,yimm⟩:FIns)).set i (⟨xop,xdst,xtwo,xargs,.slice xa xl xc,ximm⟩:FIns),z∈xin:=fun z hz=>by
    rcases mem_set hz with rfl|hz
    ·exact List.mem_of_getElem? HXE.out
    ·rcases mem_set hz with rfl|hz
     ·exact List.mem_of_getElem? HY.out
     ·exact hz
   exact HQ.out _ _ p ⟨xph,.slice pa np pc,(xin.set 0 (⟨yop,ydst,ytwo,yargs,.slice ya yl0 yc,yimm⟩:FIns)).set i (⟨xop,xdst,xtwo,xargs,.slice xa xl xc,ximm⟩:FIns),.slice (some ⟨ib,0,none⟩) ni ic,⟨kd,ar,av,tg,tv,im⟩⟩ (frTn_mk rfl rfl (sl_cons rfl (sl_cons rfl (sl_cons rfl (sl_cons rfl (sl_cons rfl (sl_nil _))))))) ⟨h2,HP.out,
    { HO.out.same with
     r:=⟨HO.out.r.phis,fun z hz=>HO.out.r.ins z (hmem z hz),HO.out.r.term⟩
     args:=fun z hz=>HO.out.args z (hmem z hz)
     less:=by show ((xin.set 0 (⟨yop,ydst,ytwo,yargs,.slice ya yl0 yc,yimm⟩:FIns)).set i (⟨xop,xdst,xtwo,xargs,.slice xa xl xc,ximm⟩:FIns)).length≤_;rw[List.length_set,List.length_set];exact Nat.le_refl _ },
    h2.done (h2.oldPh HX.out.1) (fun z hz=>h2.oldIn HX.out.2.1 z (hmem z hz)) HX.out.2.2.1 (h2.nums HX.out.2.2.2)⟩
 ·obtain rfl|rfl:ni=0∨ni=1:=by omega
  all_goals
   go_wp2_with fail
   exact HQ.out _ _ p ⟨xph,.slice pa np pc,xin,.slice ia _ ic,⟨kd,ar,av,tg,tv,im⟩⟩ (frTn_mk rfl rfl (sl_cons rfl (sl_cons rfl (sl_cons rfl (sl_cons rfl (sl_cons rfl (sl_nil _))))))) ⟨HS.out,HP.out,{ HO.out.same with r:=⟨HO.out.r.phis,HO.out.r.ins,HO.out.r.term⟩ },HS.out.done (HS.out.oldPh HX.out.1) (HS.out.oldIn HX.out.2.1) HX.out.2.2.1 (HS.out.nums HX.out.2.2.2)⟩
end Go.Proofs.YtmhojfpidedjeaaGreatDoor
