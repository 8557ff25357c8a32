/- jacquardref03.Turned: an operand. -/
import Derived.Test.YtmhojfpidedjeaaGreatDoorTq08
namespace Go.Proofs.YtmhojfpidedjeaaGreatDoor
open Go.RowKit
set_option linter.unusedVariables false
set_option maxHeartbeats 4000000 in
set_option maxRecDepth 1000000 in
theorem tn_way3 (w0:World) (N:Nat) (X:FBlk):TnWay w0 N X 3:=by
 intro fb rq bb nb bc qx bl p phv inv bi n i a0 w1 Q0 hfr hX hO hN hp hn hi hs hQ
 obtain⟨u,ha0,hu⟩:=frameTn_ex hfr
 obtain⟨g1,g2,s2,s4,s5,s8,s9,s10,s11,s60,g3⟩:=hfr
 have e2:=hu 2 _ s2
 have e4:=hu 4 _ s4
 have e5:=hu 5 _ s5
 have e8:=hu 8 _ s8
 have e9:=hu 9 _ s9
 have e10:=hu 10 _ s10
 have e11:=hu 11 _ s11
 have e60:=hu 60 _ s60
 rw[e2,e4,e5,e8,e9,e10,e11,e60]at ha0
 subst ha0
 clear hu g1 g2 g3 e2 s2 e4 s4 e5 s5 e8 s8 e9 s9 e10 s10 e11 s11 e60 s60
 conv=>arg 2;whnf
 obtain⟨xph,xphv,xin,xinv,⟨kd,ar,av,tg,tv,im⟩⟩:=X
 obtain⟨pa,pc,e1⟩:=OwnRow.shape hs.phis
 obtain⟨ia,ic,e2⟩:=OwnRow.shape hs.ins
 obtain⟨np,hnp⟩:∃ n,xph.length=n:=⟨_,rfl⟩
 obtain⟨ni,hni⟩:∃ n,xin.length=n:=⟨_,rfl⟩
 replace e1:phv=.slice pa np pc:=by rw[←hnp];exact e1
 replace e2:inv=.slice ia ni ic:=by rw[←hni];exact e2
 subst e1 e2
 have HQ:=Lib.hid hQ
 have HX:=Lib.hid hX
 have HO:=Lib.hid hO
 have HP:=Lib.hid hp
 have HS:=Lib.hid hs
 have HNP:=Lib.hid hnp
 have HNI:=Lib.hid hni
 have hil:0<ni→i<ni:=by rw[←hni];exact hi
 have hNI:=hO.len
 replace hNI:ni≤700:=by rw[←hni];exact hNI
 have hNP:=hO.phis.1
 replace hNP:np≤3+N:=by rw[←hnp];exact hNP
 have hx:=hs.xbox
 have z0:=hx.cell 0
 have z1:=hx.cell 1
 have z2:=hx.cell 2
 have z4:=hx.cell 4
 have zf:=hx.frozen
 have zl:=hx.lt
 clear hQ hX hO hp hs hnp hni hx hi
 dsimp only at z0 z1 z2 z4
 by_cases h0:0<ni
 ·have hin:i<ni:=hil h0
  obtain⟨ib,ic2,e,hic,_,_,il9,_,ifz⟩:=own_where HS.out.ins (by rw[HNI.out];exact h0)
  rw[HNI.out]at e hic
  cases e
  obtain⟨y,hy⟩:∃ y,xin[i]? = some y:=⟨_,List.getElem?_eq_getElem (by rw[HNI.out];exact hin)⟩
  have HYC:=Lib.hid (own_at ficells_len HS.out.ins hy)
  have HY:=Lib.hid hy
  clear hy
  obtain⟨yop,ydst,ytwo,yargs,yav,yimm⟩:=y
  have HYI:=Lib.hid (show Ints w0 yav yargs from row_all HX.out.2.1 _ (List.mem_of_getElem? HY.out))
  obtain⟨ya,yc,eyv⟩:=nums_lenI HYI.out
  obtain⟨ny,hny⟩:∃ n,yargs.length=n:=⟨_,rfl⟩
  rw[hny]at eyv
  subst eyv
  have hny4:ny≤4:=by rw[←hny];exact HO.out.args _ (List.mem_of_getElem? HY.out)
  have HNY:=Lib.hid hny
  clear hny
  have c3:w1.cell? ⟨ib,i*5+3,none⟩=some (.slice ya ny yc):=HYC.out 3 (by decide)
  by_cases hy0:0<ny
  ·obtain⟨j,hj,hjt⟩:∃ j:Nat,(n:Int).tmod ny=j∧j<ny:=⟨n % ny,rem_nat n ny,Nat.mod_lt _ hy0⟩
   go_upto_region 29 with (at_builtin;refine wpList_append_nums2 (base:=w1.heap.size) .i64 rfl _ _ 32 rfl 3 (.int .i64 0) 8 Tryz.underlying32 (by kernel_rfl) rfl (by decide) (.slice (some ⟨w1.heap.size,0,none⟩) 0 0) (.slice ya ny yc) [] yargs rfl rfl (empty_nums w1) ((HYI.out.keep HS.out.since).keep ((Since.refl _).alloc _)) (by simp only[List.length_nil];rw[HNY.out];omega) (by simp only[World.alloc,Array.size_push];omega) ?_;intro v2 w2 ho2 ht2 _;rw[List.nil_append]at ho2;have HO2:=Lib.hid ho2;have HSZ2:=Lib.hid ht2.size;have HS2:=Lib.hid ((HS.out.keep ((Since.refl w1).alloc _)).turnRow (empty_nums w1) HS.out.since.size (by decide) ht2);obtain⟨tb,tcap,hv2,hcap,_,hbase,htl,hcell,hfz⟩:=own_where ho2 (by rw[HNY.out];exact hy0);rw[HNY.out]at hv2 hcap;subst hv2;have s9:=hcell j _ (ints_map yargs j _ (List.getElem?_eq_getElem (by rw[HNY.out];exact hjt)));clear ho2 ht2 hcell)
   obtain⟨w3,hw3⟩:∃ z,z=w2.setCell ⟨tb,j,none⟩ (.int .i64 (n:Int)):=⟨_,rfl⟩
   have ht3:Turn (fun q=>some tb=some q) w2 w3:=by rw[hw3];exact (Turn.refl (fun q=>some tb=some q) w2).setCell (p:=⟨tb,j,none⟩) rfl _
   have HO3:=Lib.hid (show w3.ownsRow w1.heap.size 3 1 (.slice (some ⟨tb,0,none⟩) ny tcap) (yargs.set j n).length ((yargs.set j n).map (Value.int .i64)) from by rw[hw3];exact own_setInt HO2.out HNY.out _)
   have HS3:=Lib.hid (HS2.out.turnRow HO2.out HS.out.since.size (by decide) ht3)
   rw[←hw3]
   have b9:=HS3.out.xbox
   have s1:=b9.cell 1
   have sl:=b9.lt
   obtain⟨_,_,e3,_,_,_,il3,_,ifz3⟩:=own_where HS3.out.ins (by rw[HNI.out];exact h0)
   rw[HNI.out]at e3
   cases e3
   have s3:w3.cell? ⟨ib,i*5+3,none⟩=_:=own_at ficells_len HS3.out.ins HY.out 3 (by decide)
   clear b9 hw3 ht3 s9 hfz
   go_wp2_with fail
   have ho:=own_setOne (x':=⟨yop,ydst,ytwo,yargs.set j n,.slice (some ⟨tb,0,none⟩) ny tcap,yimm⟩) (t:=3) (u:=.slice (some ⟨tb,0,none⟩) ny tcap) ficells_len HS3.out.ins HY.out (by decide) rfl
   have t4:=(Turn.refl (fun q=>some ib=some q) w3).setCell (p:=⟨ib,i*5+3,none⟩) rfl (.slice (some ⟨tb,0,none⟩) ny tcap)
   have h2:=HS3.out.inTurn ho t4
   have hrow:=own_turn HO3.out t4 fun q hq e=>own_ne HO3.out HS3.out.ins (by decide) q hq e
   have hm:=List.mem_of_getElem? HY.out
   exact HQ.out _ _ p ⟨xph,.slice pa np pc,xin.set i ⟨yop,ydst,ytwo,yargs.set j n,.slice (some ⟨tb,0,none⟩) ny tcap,yimm⟩,.slice (some ⟨ib,0,none⟩) ni ic,⟨kd,ar,av,tg,tv,im⟩⟩ (frTn_mk rfl rfl (sl_cons rfl (sl_cons rfl (sl_cons rfl (sl_cons rfl (sl_cons rfl (sl_nil _))))))) ⟨h2,HP.out,
    { HO.out.same with
     r:=⟨HO.out.r.phis,fun z hz=>by
      rcases mem_set hz with rfl|hz
      ·exact { HO.out.r.ins _ hm with args:=fun u hu=>(mem_set hu).elim (fun e=>by rw[e];exact⟨by omega,by omega⟩) ((HO.out.r.ins _ hm).args u) }
      ·exact HO.out.r.ins z hz,HO.out.r.term⟩
     args:=fun z hz=>by
      rcases mem_set hz with rfl|hz
      ·show (yargs.set j _).length≤4;rw[List.length_set];exact HO.out.args _ hm
      ·exact HO.out.args z hz
     less:=by show (xin.set i _).length≤_;rw[List.length_set];exact Nat.le_refl _ },
    h2.done (h2.oldPh HX.out.1) (fun z hz=>by
     rcases mem_set hz with rfl|hz
     ·exact fun w' t=>ints_ownT (h2.lateRow hrow (by decide) t)
     ·exact h2.oldIn HX.out.2.1 z hz) HX.out.2.2.1 (h2.nums HX.out.2.2.2)⟩
  ·obtain rfl:ny=0:=by omega
   go_wp2_with fail
   exact HQ.out _ _ p ⟨xph,.slice pa np pc,xin,.slice (some ⟨ib,0,none⟩) ni ic,⟨kd,ar,av,tg,tv,im⟩⟩ (frTn_mk rfl rfl (sl_cons rfl (sl_cons rfl (sl_cons rfl (sl_cons rfl (sl_cons rfl (sl_nil _))))))) ⟨HS.out,HP.out,{ HO.out.same with r:=⟨HO.out.r.phis,HO.out.r.ins,HO.out.r.term⟩ },HS.out.done (HS.out.oldPh HX.out.1) (HS.out.oldIn HX.out.2.1) HX.out.2.2.1 (HS.out.nums HX.out.2.2.2)⟩
 ·obtain rfl:ni=0:=by omega
  go_wp2_with fail
  exact HQ.out _ _ p ⟨xph,.slice pa np pc,xin,.slice ia 0 ic,⟨kd,ar,av,tg,tv,im⟩⟩ (frTn_mk rfl rfl (sl_cons rfl (sl_cons rfl (sl_cons rfl (sl_cons rfl (sl_cons rfl (sl_nil _))))))) ⟨HS.out,HP.out,{ HO.out.same with r:=⟨HO.out.r.phis,HO.out.r.ins,HO.out.r.term⟩ },HS.out.done (HS.out.oldPh HX.out.1) (HS.out.oldIn HX.out.2.1) HX.out.2.2.1 (HS.out.nums HX.out.2.2.2)⟩
end Go.Proofs.YtmhojfpidedjeaaGreatDoor
