/- jacquardref03.Turned: a pair of a phi. -/
import Derived.Test.YtmhojfpidedjeaaGreatDoorTq08
namespace Go.Proofs.YtmhojfpidedjeaaGreatDoor
open Go.RowKit
set_option linter.unusedVariables false
set_option maxHeartbeats 4000000 in
set_option maxRecDepth 1000000 in
theorem tn_way7 (w0:World) (N:Nat) (X:FBlk):TnWay w0 N X 7:=by
 intro fb rq bb nb bc qx bl p phv inv bi n i a0 w1 Q0 hfr hX hO hN hp hn hi hs hQ
 obtain⟨u,ha0,hu⟩:=frameTn_ex hfr
 obtain⟨g1,g2,s2,s4,s5,s8,s9,s10,s11,s60,g3⟩:=hfr
 have e2:=hu 2 _ s2
 have e4:=hu 4 _ s4
 have e5:=hu 5 _ s5
 have e8:=hu 8 _ s8
 have e9:=hu 9 _ s9
 have e10:=hu 10 _ s10
 have e11:=hu 11 _ s11
 have e60:=hu 60 _ s60
 rw[e2,e4,e5,e8,e9,e10,e11,e60]at ha0
 subst ha0
 clear hu g1 g2 g3 e2 s2 e4 s4 e5 s5 e8 s8 e9 s9 e10 s10 e11 s11 e60 s60
 conv=>arg 2;whnf
 obtain⟨xph,xphv,xin,xinv,⟨kd,ar,av,tg,tv,im⟩⟩:=X
 obtain⟨pa,pc,e1⟩:=OwnRow.shape hs.phis
 obtain⟨ia,ic,e2⟩:=OwnRow.shape hs.ins
 obtain⟨np,hnp⟩:∃ n,xph.length=n:=⟨_,rfl⟩
 obtain⟨ni,hni⟩:∃ n,xin.length=n:=⟨_,rfl⟩
 replace e1:phv=.slice pa np pc:=by rw[←hnp];exact e1
 replace e2:inv=.slice ia ni ic:=by rw[←hni];exact e2
 subst e1 e2
 have HQ:=Lib.hid hQ
 have HX:=Lib.hid hX
 have HO:=Lib.hid hO
 have HP:=Lib.hid hp
 have HS:=Lib.hid hs
 have HNP:=Lib.hid hnp
 have HNI:=Lib.hid hni
 have hil:0<ni→i<ni:=by rw[←hni];exact hi
 have hNI:=hO.len
 replace hNI:ni≤700:=by rw[←hni];exact hNI
 have hNP:=hO.phis.1
 replace hNP:np≤3+N:=by rw[←hnp];exact hNP
 have hx:=hs.xbox
 have z0:=hx.cell 0
 have z1:=hx.cell 1
 have z2:=hx.cell 2
 have z4:=hx.cell 4
 have zf:=hx.frozen
 have zl:=hx.lt
 clear hQ hX hO hp hs hnp hni hx hi
 dsimp only at z0 z1 z2 z4
 by_cases h0:0<np
 ·obtain⟨pb,pc2,e,hpc,_,_,pl9,_,pfz⟩:=own_where HS.out.phis (by rw[HNP.out];exact h0)
  rw[HNP.out]at e hpc
  cases e
  obtain⟨y,hy⟩:∃ y,xph[0]? = some y:=⟨_,List.getElem?_eq_getElem (by rw[HNP.out];exact h0)⟩
  have HYC:=Lib.hid (own_at fpcells_len HS.out.phis hy)
  have HY:=Lib.hid hy
  clear hy
  obtain⟨yd,yi,yv⟩:=y
  have HYI:=Lib.hid (show PairsIn w0 yv yi from row_all HX.out.1 _ (List.mem_of_getElem? HY.out))
  obtain⟨ya,yc,eyv,_⟩:=RowIn.shape HYI.out
  obtain⟨ny,hny⟩:∃ n,yi.length=n:=⟨_,rfl⟩
  rw[hny]at eyv
  subst eyv
  have HNY:=Lib.hid hny
  have hnyK:ny≤9+N:=by rw[←hny];exact HO.out.phis.2 _ (List.mem_of_getElem? HY.out)
  clear hny
  have c1:w1.cell? ⟨pb,1,none⟩=some (.slice ya ny yc):=HYC.out 1 (by decide)
  by_cases hy0:0<ny
  ·obtain⟨j,hj,hjt⟩:∃ j:Nat,(n:Int).tmod ny=j∧j<ny:=⟨n % ny,rem_nat n ny,Nat.mod_lt _ hy0⟩
   obtain⟨sb,so,hsb,hsl,hscell⟩:∃ sb so,ya=some ⟨sb,so,none⟩∧sb<w0.heap.size∧∀ (j t:Nat) (x:Int × Int),yi[j]? = some x→t<2→w0.cell? ⟨sb,so+j*2+t,none⟩=(prcells x)[t]?:=by
    rcases HYI.out with ⟨_,_,e⟩|⟨b,off,cap,e,_,_,hb,hc⟩
    ·have:=HNY.out;rw[e]at this;simp at this;omega
    ·cases e;exact⟨b,off,rfl,hb,fun j t x hj ht=>(hc j x hj).1 t ht⟩
   subst hsb
   have HSC:=Lib.hid hscell
   have HSL:=Lib.hid hsl
   clear hscell hsl
   go_upto_region 41 with (at_builtin;refine wpList_append_rowT w1.heap.size prcells 2 prcells_len (by decide) rfl _ _ 58 rfl 71 (.agg #[.int .i64 0,.int .i64 0]) 16 Tryz.underlying58 (by kernel_rfl) rfl (by decide) (.slice (some ⟨w1.heap.size,0,none⟩) 0 0) ([]:List (Int × Int)) yi (fun x _ u hu=>by simp only[prcells,List.mem_cons,List.not_mem_nil,or_false]at hu;rcases hu with rfl | rfl<;>rfl) sb so ny yc rfl rfl (own_new prcells 2 71 w1 [] 0 prcells_len rfl (by decide) #[] rfl) HNY.out (fun j t x hj ht=>((HS.out.since.trans ((Since.refl _).alloc _)).cell (p:=⟨sb,so+j*2+t,none⟩) HSL.out).trans (HSC.out j t x hj ht)) (by simp only[List.length_nil];omega) (by simp only[World.alloc,Array.size_push];omega) ?_;intro v2 w2 ho2 ht2 _;rw[List.nil_append]at ho2;have HO2:=Lib.hid ho2;have HS2:=Lib.hid ((HS.out.keep ((Since.refl w1).alloc _)).turnRow (own_new prcells 2 71 w1 [] 0 prcells_len rfl (by decide) #[] rfl) HS.out.since.size (by decide) ht2);obtain⟨tb,tcap,hv2,hcap,_,hbase,htl,hcell,hfz⟩:=own_where ho2 (by rw[HNY.out];exact hy0);rw[HNY.out]at hv2 hcap;subst hv2;obtain⟨z,hz⟩:∃ z,yi[j]? = some z:=⟨_,List.getElem?_eq_getElem (by rw[HNY.out];exact hjt)⟩;have HZ:=Lib.hid hz;have s9:w2.cell? ⟨tb,j*2+1,none⟩=_:=own_at prcells_len ho2 hz 1 (by decide);clear ho2 ht2 hcell hz)
   obtain⟨w3,hw3⟩:∃ z,z=w2.setCell ⟨tb,j*2+1,none⟩ (.int .i64 (n:Int)):=⟨_,rfl⟩
   have ht3:Turn (fun q=>some tb=some q) w2 w3:=by rw[hw3];exact (Turn.refl (fun q=>some tb=some q) w2).setCell (p:=⟨tb,j*2+1,none⟩) rfl _
   have HO3:=Lib.hid (show OwnRow prcells 2 71 w1.heap.size w3 (.slice (some ⟨tb,0,none⟩) ny tcap) (yi.set j (z.1,(n:Int))) from by rw[hw3];exact own_setOne (x':=(z.1,(n:Int))) (t:=1) prcells_len HO2.out HZ.out (by decide) rfl)
   have HS3:=Lib.hid (HS2.out.turnRow HO2.out HS.out.since.size (by decide) ht3)
   rw[←hw3]
   have b9:=HS3.out.xbox
   have s0:=b9.cell 0
   have sl:=b9.lt
   obtain⟨_,_,e3,_,_,_,pl3,_,pfz3⟩:=own_where HS3.out.phis (by rw[HNP.out];exact h0)
   rw[HNP.out]at e3
   cases e3
   have s3:w3.cell? ⟨pb,1,none⟩=_:=own_at fpcells_len HS3.out.phis HY.out 1 (by decide)
   clear b9 hw3 ht3 s9 hfz
   go_wp2_with fail
   have ho:=own_setOne (x':=(⟨yd,yi.set j (z.1,(n:Int)),.slice (some ⟨tb,0,none⟩) ny tcap⟩:FPhi)) (t:=1) (u:=.slice (some ⟨tb,0,none⟩) ny tcap) fpcells_len HS3.out.phis HY.out (by decide) rfl
   have t4:=(Turn.refl (fun q=>some pb=some q) w3).setCell (p:=⟨pb,0*2+1,none⟩) rfl (.slice (some ⟨tb,0,none⟩) ny tcap)
   have h2:=HS3.out.phTurn ho t4
   have hrow:=own_turn HO3.out t4 fun q hq e=>own_ne HO3.out HS3.out.phis (by decide) q hq e
   have hm:=List.mem_of_getElem? HY.out
   exact HQ.out _ _ p ⟨xph.set 0 ⟨yd,yi.set j (z.1,(n:Int)),.slice (some ⟨tb,0,none⟩) ny tcap⟩,.slice (some ⟨pb,0,none⟩) np pc,xin,.slice ia ni ic,⟨kd,ar,av,tg,tv,im⟩⟩ (frTn_mk rfl rfl (sl_cons rfl (sl_cons rfl (sl_cons rfl (sl_cons rfl (sl_cons rfl (sl_nil _))))))) ⟨h2,HP.out,
    { HO.out.same with
     r:=⟨fun q hq=>by
      rcases mem_set hq with rfl|hq
      ·exact⟨(HO.out.r.phis _ hm).dst,fun u hu=>by
        rcases mem_set hu with rfl|hu
        ·exact⟨((HO.out.r.phis _ hm).ins z (List.mem_of_getElem? HZ.out)).1,⟨by show (_:Int)≤(n:Int);omega,by show (n:Int)≤_;omega⟩⟩
        ·exact (HO.out.r.phis _ hm).ins u hu⟩
      ·exact HO.out.r.phis q hq,HO.out.r.ins,HO.out.r.term⟩
     phis:=⟨by show (xph.set 0 _).length≤_;rw[List.length_set,HNP.out];omega,fun q hq=>by
      rcases mem_set hq with rfl|hq
      ·show (yi.set j _).length≤_;rw[List.length_set,HNY.out];omega
      ·exact HO.out.same.phis.2 q hq⟩ },
    h2.done (fun q hq=>by
     rcases mem_set hq with rfl|hq
     ·exact fun w' t=>(show PairsIn w' _ _ from row_of_own (p:=fun _ _=>True) prcells_len (h2.lateRow hrow (by decide) t) fun _ _=>trivial)
     ·exact h2.oldPh HX.out.1 q hq) (h2.oldIn HX.out.2.1) HX.out.2.2.1 (h2.nums HX.out.2.2.2)⟩
  ·obtain rfl:ny=0:=by omega
   go_wp2_with fail
   exact HQ.out _ _ p ⟨xph,.slice (some ⟨pb,0,none⟩) np pc,xin,.slice ia ni ic,⟨kd,ar,av,tg,tv,im⟩⟩ (frTn_mk rfl rfl (sl_cons rfl (sl_cons rfl (sl_cons rfl (sl_cons rfl (sl_cons rfl (sl_nil _))))))) ⟨HS.out,HP.out,{ HO.out.same with r:=⟨HO.out.r.phis,HO.out.r.ins,HO.out.r.term⟩ },HS.out.done (HS.out.oldPh HX.out.1) (HS.out.oldIn HX.out.2.1) HX.out.2.2.1 (HS.out.nums HX.out.2.2.2)⟩
 ·obtain rfl:np=0:=by omega
  go_wp2_with fail
  exact HQ.out _ _ p ⟨xph,.slice pa 0 pc,xin,.slice ia ni ic,⟨kd,ar,av,tg,tv,im⟩⟩ (frTn_mk rfl rfl (sl_cons rfl (sl_cons rfl (sl_cons rfl (sl_cons rfl (sl_cons rfl (sl_nil _))))))) ⟨HS.out,HP.out,{ HO.out.same with r:=⟨HO.out.r.phis,HO.out.r.ins,HO.out.r.term⟩ },HS.out.done (HS.out.oldPh HX.out.1) (HS.out.oldIn HX.out.2.1) HX.out.2.2.1 (HS.out.nums HX.out.2.2.2)⟩
end Go.Proofs.YtmhojfpidedjeaaGreatDoor
