/- jacquardref03.Turned: parameters, kinds, operations and registers. -/
import Derived.Test.YtmhojfpidedjeaaGreatDoorTq08
namespace Go.Proofs.YtmhojfpidedjeaaGreatDoor
open Go.RowKit
set_option linter.unusedVariables false
set_option maxHeartbeats 4000000 in
set_option maxRecDepth 1000000 in
theorem tn_way0 (w0:World) (N:Nat) (X:FBlk):TnWay w0 N X 0:=by
 intro fb rq bb nb bc qx bl p phv inv bi n i a0 w1 Q0 hfr hX hO hN hp hn hi hs hQ
 obtain⟨u,ha0,hu⟩:=frameTn_ex hfr
 obtain⟨g1,g2,s2,s4,s5,s8,s9,s10,s11,s60,g3⟩:=hfr
 have e2:=hu 2 _ s2
 have e4:=hu 4 _ s4
 have e5:=hu 5 _ s5
 have e8:=hu 8 _ s8
 have e9:=hu 9 _ s9
 have e10:=hu 10 _ s10
 have e11:=hu 11 _ s11
 have e60:=hu 60 _ s60
 rw[e2,e4,e5,e8,e9,e10,e11,e60]at ha0
 subst ha0
 clear hu g1 g2 g3 e2 s2 e4 s4 e5 s5 e8 s8 e9 s9 e10 s10 e11 s11 e60 s60
 conv=>arg 2;whnf
 obtain⟨xph,xphv,xin,xinv,⟨kd,ar,av,tg,tv,im⟩⟩:=X
 obtain⟨pa,pc,e1⟩:=OwnRow.shape hs.phis
 obtain⟨ia,ic,e2⟩:=OwnRow.shape hs.ins
 obtain⟨np,hnp⟩:∃ n,xph.length=n:=⟨_,rfl⟩
 obtain⟨ni,hni⟩:∃ n,xin.length=n:=⟨_,rfl⟩
 replace e1:phv=.slice pa np pc:=by rw[←hnp];exact e1
 replace e2:inv=.slice ia ni ic:=by rw[←hni];exact e2
 subst e1 e2
 have HQ:=Lib.hid hQ
 have HX:=Lib.hid hX
 have HO:=Lib.hid hO
 have HP:=Lib.hid hp
 have HS:=Lib.hid hs
 have HNP:=Lib.hid hnp
 have HNI:=Lib.hid hni
 have hil:0<ni→i<ni:=by rw[←hni];exact hi
 have hNI:=hO.len
 replace hNI:ni≤700:=by rw[←hni];exact hNI
 have hNP:=hO.phis.1
 replace hNP:np≤3+N:=by rw[←hnp];exact hNP
 have hx:=hs.xbox
 have z0:=hx.cell 0
 have z1:=hx.cell 1
 have z2:=hx.cell 2
 have z4:=hx.cell 4
 have zf:=hx.frozen
 have zl:=hx.lt
 clear hQ hX hO hp hs hnp hni hx hi
 dsimp only at z0 z1 z2 z4
 have f0:=HS.out.fbox.cell 0
 have ff:=HS.out.fbox.frozen
 have fl:=HS.out.fbox.lt
 obtain⟨r,hr,hr7⟩:∃ r:Nat,(n:Int).tmod 7=r∧r<7:=⟨n % 7,rem_nat n 7,Nat.mod_lt _ (by decide)⟩
 go_wp2_with fail
 have h2:=HS.out.setP ((r:Int)-1)
 exact HQ.out _ _ ((r:Int)-1) ⟨xph,.slice pa np pc,xin,.slice ia ni ic,⟨kd,ar,av,tg,tv,im⟩⟩ (frTn_mk rfl rfl (sl_cons rfl (sl_cons rfl (sl_cons rfl (sl_cons rfl (sl_cons rfl (sl_nil _))))))) ⟨h2,⟨by omega,by omega⟩,{ HO.out.same with r:=⟨HO.out.r.phis,HO.out.r.ins,HO.out.r.term⟩ },h2.done (h2.oldPh HX.out.1) (h2.oldIn HX.out.2.1) HX.out.2.2.1 (h2.nums HX.out.2.2.2)⟩
set_option maxHeartbeats 4000000 in
set_option maxRecDepth 1000000 in
theorem tn_way5 (w0:World) (N:Nat) (X:FBlk):TnWay w0 N X 5:=by
 intro fb rq bb nb bc qx bl p phv inv bi n i a0 w1 Q0 hfr hX hO hN hp hn hi hs hQ
 obtain⟨u,ha0,hu⟩:=frameTn_ex hfr
 obtain⟨g1,g2,s2,s4,s5,s8,s9,s10,s11,s60,g3⟩:=hfr
 have e2:=hu 2 _ s2
 have e4:=hu 4 _ s4
 have e5:=hu 5 _ s5
 have e8:=hu 8 _ s8
 have e9:=hu 9 _ s9
 have e10:=hu 10 _ s10
 have e11:=hu 11 _ s11
 have e60:=hu 60 _ s60
 rw[e2,e4,e5,e8,e9,e10,e11,e60]at ha0
 subst ha0
 clear hu g1 g2 g3 e2 s2 e4 s4 e5 s5 e8 s8 e9 s9 e10 s10 e11 s11 e60 s60
 conv=>arg 2;whnf
 obtain⟨xph,xphv,xin,xinv,⟨kd,ar,av,tg,tv,im⟩⟩:=X
 obtain⟨pa,pc,e1⟩:=OwnRow.shape hs.phis
 obtain⟨ia,ic,e2⟩:=OwnRow.shape hs.ins
 obtain⟨np,hnp⟩:∃ n,xph.length=n:=⟨_,rfl⟩
 obtain⟨ni,hni⟩:∃ n,xin.length=n:=⟨_,rfl⟩
 replace e1:phv=.slice pa np pc:=by rw[←hnp];exact e1
 replace e2:inv=.slice ia ni ic:=by rw[←hni];exact e2
 subst e1 e2
 have HQ:=Lib.hid hQ
 have HX:=Lib.hid hX
 have HO:=Lib.hid hO
 have HP:=Lib.hid hp
 have HS:=Lib.hid hs
 have HNP:=Lib.hid hnp
 have HNI:=Lib.hid hni
 have hil:0<ni→i<ni:=by rw[←hni];exact hi
 have hNI:=hO.len
 replace hNI:ni≤700:=by rw[←hni];exact hNI
 have hNP:=hO.phis.1
 replace hNP:np≤3+N:=by rw[←hnp];exact hNP
 have hx:=hs.xbox
 have z0:=hx.cell 0
 have z1:=hx.cell 1
 have z2:=hx.cell 2
 have z4:=hx.cell 4
 have zf:=hx.frozen
 have zl:=hx.lt
 clear hQ hX hO hp hs hnp hni hx hi
 dsimp only at z0 z1 z2 z4
 obtain⟨r,hr,hr7⟩:∃ r:Nat,(n:Int).tmod 7=r∧r<7:=⟨n % 7,rem_nat n 7,Nat.mod_lt _ (by decide)⟩
 go_wp2_with fail
 have h2:=HS.out.put (i:=2) (u:=.int .i64 (r:Int)) rfl HS.out.phis HS.out.ins
 exact HQ.out _ _ p ⟨xph,.slice pa np pc,xin,.slice ia ni ic,⟨(r:Int),ar,av,tg,tv,im⟩⟩ (frTn_mk rfl rfl (sl_cons rfl (sl_cons rfl (sl_cons rfl (sl_cons rfl (sl_cons rfl (sl_nil _))))))) ⟨h2,HP.out,{ HO.out.same with r:=⟨HO.out.r.phis,HO.out.r.ins,{ HO.out.r.term with kd:=⟨by show (_:Int)≤(r:Int);omega,by show (r:Int)≤_;omega⟩ }⟩ },h2.done (h2.oldPh HX.out.1) (h2.oldIn HX.out.2.1) HX.out.2.2.1 (h2.nums HX.out.2.2.2)⟩
set_option maxHeartbeats 4000000 in
set_option maxRecDepth 1000000 in
theorem tn_way1 (w0:World) (N:Nat) (X:FBlk):TnWay w0 N X 1:=by
 intro fb rq bb nb bc qx bl p phv inv bi n i a0 w1 Q0 hfr hX hO hN hp hn hi hs hQ
 obtain⟨u,ha0,hu⟩:=frameTn_ex hfr
 obtain⟨g1,g2,s2,s4,s5,s8,s9,s10,s11,s60,g3⟩:=hfr
 have e2:=hu 2 _ s2
 have e4:=hu 4 _ s4
 have e5:=hu 5 _ s5
 have e8:=hu 8 _ s8
 have e9:=hu 9 _ s9
 have e10:=hu 10 _ s10
 have e11:=hu 11 _ s11
 have e60:=hu 60 _ s60
 rw[e2,e4,e5,e8,e9,e10,e11,e60]at ha0
 subst ha0
 clear hu g1 g2 g3 e2 s2 e4 s4 e5 s5 e8 s8 e9 s9 e10 s10 e11 s11 e60 s60
 conv=>arg 2;whnf
 obtain⟨xph,xphv,xin,xinv,⟨kd,ar,av,tg,tv,im⟩⟩:=X
 obtain⟨pa,pc,e1⟩:=OwnRow.shape hs.phis
 obtain⟨ia,ic,e2⟩:=OwnRow.shape hs.ins
 obtain⟨np,hnp⟩:∃ n,xph.length=n:=⟨_,rfl⟩
 obtain⟨ni,hni⟩:∃ n,xin.length=n:=⟨_,rfl⟩
 replace e1:phv=.slice pa np pc:=by rw[←hnp];exact e1
 replace e2:inv=.slice ia ni ic:=by rw[←hni];exact e2
 subst e1 e2
 have HQ:=Lib.hid hQ
 have HX:=Lib.hid hX
 have HO:=Lib.hid hO
 have HP:=Lib.hid hp
 have HS:=Lib.hid hs
 have HNP:=Lib.hid hnp
 have HNI:=Lib.hid hni
 have hil:0<ni→i<ni:=by rw[←hni];exact hi
 have hNI:=hO.len
 replace hNI:ni≤700:=by rw[←hni];exact hNI
 have hNP:=hO.phis.1
 replace hNP:np≤3+N:=by rw[←hnp];exact hNP
 have hx:=hs.xbox
 have z0:=hx.cell 0
 have z1:=hx.cell 1
 have z2:=hx.cell 2
 have z4:=hx.cell 4
 have zf:=hx.frozen
 have zl:=hx.lt
 clear hQ hX hO hp hs hnp hni hx hi
 dsimp only at z0 z1 z2 z4
 by_cases h0:0<ni
 ·have hin:i<ni:=hil h0
  obtain⟨ib,ic2,e,hic,_,_,il9,_,ifz⟩:=own_where HS.out.ins (by rw[HNI.out];exact h0)
  rw[HNI.out]at e hic
  cases e
  obtain⟨y,hy⟩:∃ y,xin[i]? = some y:=⟨_,List.getElem?_eq_getElem (by rw[HNI.out];exact hin)⟩
  have HYC:=Lib.hid (own_at ficells_len HS.out.ins hy)
  have HY:=Lib.hid hy
  clear hy
  have c0:w1.cell? ⟨ib,i*5,none⟩=_:=HYC.out 0 (by decide)
  obtain⟨r,hr,hr20⟩:∃ r:Nat,(n:Int).tmod 20=r∧r<20:=⟨n % 20,rem_nat n 20,Nat.mod_lt _ (by decide)⟩
  go_wp2_with fail
  have ho:=own_setOne (x':={ y with op:=(r:Int) }) (t:=0) (u:=.int .i64 (r:Int)) ficells_len HS.out.ins HY.out (by decide) rfl
  have h2:=HS.out.inTurn ho ((Turn.refl (fun q=>some ib=some q) w1).setCell (p:=⟨ib,i*5+0,none⟩) rfl (.int .i64 (r:Int)))
  have hm:=List.mem_of_getElem? HY.out
  exact HQ.out _ _ p ⟨xph,.slice pa np pc,xin.set i { y with op:=(r:Int) },.slice (some ⟨ib,0,none⟩) ni ic,⟨kd,ar,av,tg,tv,im⟩⟩ (frTn_mk rfl rfl (sl_cons rfl (sl_cons rfl (sl_cons rfl (sl_cons rfl (sl_cons rfl (sl_nil _))))))) ⟨h2,HP.out,
   { HO.out.same with
    r:=⟨HO.out.r.phis,fun z hz=>by
     rcases mem_set hz with rfl|hz
     ·exact { HO.out.r.ins y hm with op:=⟨by show (_:Int)≤(r:Int);omega,by show (r:Int)≤_;omega⟩ }
     ·exact HO.out.r.ins z hz,HO.out.r.term⟩
    args:=fun z hz=>by
     rcases mem_set hz with rfl|hz
     ·exact HO.out.args y hm
     ·exact HO.out.args z hz
    less:=by show (xin.set i _).length≤_;rw[List.length_set];exact Nat.le_refl _ },
   h2.done (h2.oldPh HX.out.1) (fun z hz=>by
    rcases mem_set hz with rfl|hz
    ·exact h2.oldIn HX.out.2.1 y hm
    ·exact h2.oldIn HX.out.2.1 z hz) HX.out.2.2.1 (h2.nums HX.out.2.2.2)⟩
 ·obtain rfl:ni=0:=by omega
  go_wp2_with fail
  exact HQ.out _ _ p ⟨xph,.slice pa np pc,xin,.slice ia 0 ic,⟨kd,ar,av,tg,tv,im⟩⟩ (frTn_mk rfl rfl (sl_cons rfl (sl_cons rfl (sl_cons rfl (sl_cons rfl (sl_cons rfl (sl_nil _))))))) ⟨HS.out,HP.out,{ HO.out.same with r:=⟨HO.out.r.phis,HO.out.r.ins,HO.out.r.term⟩ },HS.out.done (HS.out.oldPh HX.out.1) (HS.out.oldIn HX.out.2.1) HX.out.2.2.1 (HS.out.nums HX.out.2.2.2)⟩
set_option maxHeartbeats 4000000 in
set_option maxRecDepth 1000000 in
theorem tn_way2 (w0:World) (N:Nat) (X:FBlk):TnWay w0 N X 2:=by
 intro fb rq bb nb bc qx bl p phv inv bi n i a0 w1 Q0 hfr hX hO hN hp hn hi hs hQ
 obtain⟨u,ha0,hu⟩:=frameTn_ex hfr
 obtain⟨g1,g2,s2,s4,s5,s8,s9,s10,s11,s60,g3⟩:=hfr
 have e2:=hu 2 _ s2
 have e4:=hu 4 _ s4
 have e5:=hu 5 _ s5
 have e8:=hu 8 _ s8
 have e9:=hu 9 _ s9
 have e10:=hu 10 _ s10
 have e11:=hu 11 _ s11
 have e60:=hu 60 _ s60
 rw[e2,e4,e5,e8,e9,e10,e11,e60]at ha0
 subst ha0
 clear hu g1 g2 g3 e2 s2 e4 s4 e5 s5 e8 s8 e9 s9 e10 s10 e11 s11 e60 s60
 conv=>arg 2;whnf
 obtain⟨xph,xphv,xin,xinv,⟨kd,ar,av,tg,tv,im⟩⟩:=X
 obtain⟨pa,pc,e1⟩:=OwnRow.shape hs.phis
 obtain⟨ia,ic,e2⟩:=OwnRow.shape hs.ins
 obtain⟨np,hnp⟩:∃ n,xph.length=n:=⟨_,rfl⟩
 obtain⟨ni,hni⟩:∃ n,xin.length=n:=⟨_,rfl⟩
 replace e1:phv=.slice pa np pc:=by rw[←hnp];exact e1
 replace e2:inv=.slice ia ni ic:=by rw[←hni];exact e2
 subst e1 e2
 have HQ:=Lib.hid hQ
 have HX:=Lib.hid hX
 have HO:=Lib.hid hO
 have HP:=Lib.hid hp
 have HS:=Lib.hid hs
 have HNP:=Lib.hid hnp
 have HNI:=Lib.hid hni
 have hil:0<ni→i<ni:=by rw[←hni];exact hi
 have hNI:=hO.len
 replace hNI:ni≤700:=by rw[←hni];exact hNI
 have hNP:=hO.phis.1
 replace hNP:np≤3+N:=by rw[←hnp];exact hNP
 have hx:=hs.xbox
 have z0:=hx.cell 0
 have z1:=hx.cell 1
 have z2:=hx.cell 2
 have z4:=hx.cell 4
 have zf:=hx.frozen
 have zl:=hx.lt
 clear hQ hX hO hp hs hnp hni hx hi
 dsimp only at z0 z1 z2 z4
 by_cases h0:0<ni
 ·have hin:i<ni:=hil h0
  obtain⟨ib,ic2,e,hic,_,_,il9,_,ifz⟩:=own_where HS.out.ins (by rw[HNI.out];exact h0)
  rw[HNI.out]at e hic
  cases e
  obtain⟨y,hy⟩:∃ y,xin[i]? = some y:=⟨_,List.getElem?_eq_getElem (by rw[HNI.out];exact hin)⟩
  have HYC:=Lib.hid (own_at ficells_len HS.out.ins hy)
  have HY:=Lib.hid hy
  clear hy
  have c0:w1.cell? ⟨ib,i*5+1,none⟩=_:=HYC.out 1 (by decide)
  go_wp2_with fail
  have ho:=own_setOne (x':={ y with dst:=(n:Int) }) (t:=1) (u:=.int .i64 (n:Int)) ficells_len HS.out.ins HY.out (by decide) rfl
  have h2:=HS.out.inTurn ho ((Turn.refl (fun q=>some ib=some q) w1).setCell (p:=⟨ib,i*5+1,none⟩) rfl (.int .i64 (n:Int)))
  have hm:=List.mem_of_getElem? HY.out
  exact HQ.out _ _ p ⟨xph,.slice pa np pc,xin.set i { y with dst:=(n:Int) },.slice (some ⟨ib,0,none⟩) ni ic,⟨kd,ar,av,tg,tv,im⟩⟩ (frTn_mk rfl rfl (sl_cons rfl (sl_cons rfl (sl_cons rfl (sl_cons rfl (sl_cons rfl (sl_nil _))))))) ⟨h2,HP.out,
   { HO.out.same with
    r:=⟨HO.out.r.phis,fun z hz=>by
     rcases mem_set hz with rfl|hz
     ·exact { HO.out.r.ins y hm with dst:=⟨by show (_:Int)≤(n:Int);omega,by show (n:Int)≤_;omega⟩ }
     ·exact HO.out.r.ins z hz,HO.out.r.term⟩
    args:=fun z hz=>by
     rcases mem_set hz with rfl|hz
     ·exact HO.out.args y hm
     ·exact HO.out.args z hz
    less:=by show (xin.set i _).length≤_;rw[List.length_set];exact Nat.le_refl _ },
   h2.done (h2.oldPh HX.out.1) (fun z hz=>by
    rcases mem_set hz with rfl|hz
    ·exact h2.oldIn HX.out.2.1 y hm
    ·exact h2.oldIn HX.out.2.1 z hz) HX.out.2.2.1 (h2.nums HX.out.2.2.2)⟩
 ·obtain rfl:ni=0:=by omega
  go_wp2_with fail
  exact HQ.out _ _ p ⟨xph,.slice pa np pc,xin,.slice ia 0 ic,⟨kd,ar,av,tg,tv,im⟩⟩ (frTn_mk rfl rfl (sl_cons rfl (sl_cons rfl (sl_cons rfl (sl_cons rfl (sl_cons rfl (sl_nil _))))))) ⟨HS.out,HP.out,{ HO.out.same with r:=⟨HO.out.r.phis,HO.out.r.ins,HO.out.r.term⟩ },HS.out.done (HS.out.oldPh HX.out.1) (HS.out.oldIn HX.out.2.1) HX.out.2.2.1 (HS.out.nums HX.out.2.2.2)⟩
end Go.Proofs.YtmhojfpidedjeaaGreatDoor
