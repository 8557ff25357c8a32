/- jacquardref03.Turned: targets; one more phi. -/
import Derived.Test.YtmhojfpidedjeaaGreatDoorTq08
namespace Go.Proofs.YtmhojfpidedjeaaGreatDoor
open Go.RowKit
set_option linter.unusedVariables false
set_option maxHeartbeats 4000000 in
set_option maxRecDepth 1000000 in
theorem tn_way4 (w0:World) (N:Nat) (X:FBlk):TnWay w0 N X 4:=by
 intro fb rq bb nb bc qx bl p phv inv bi n i a0 w1 Q0 hfr hX hO hN hp hn hi hs hQ
 obtain⟨u,ha0,hu⟩:=frameTn_ex hfr
 obtain⟨g1,g2,s2,s4,s5,s8,s9,s10,s11,s60,g3⟩:=hfr
 have e2:=hu 2 _ s2
 have e4:=hu 4 _ s4
 have e5:=hu 5 _ s5
 have e8:=hu 8 _ s8
 have e9:=hu 9 _ s9
 have e10:=hu 10 _ s10
 have e11:=hu 11 _ s11
 have e60:=hu 60 _ s60
 rw[e2,e4,e5,e8,e9,e10,e11,e60]at ha0
 subst ha0
 clear hu g1 g2 g3 e2 s2 e4 s4 e5 s5 e8 s8 e9 s9 e10 s10 e11 s11 e60 s60
 conv=>arg 2;whnf
 obtain⟨xph,xphv,xin,xinv,⟨kd,ar,av,tg,tv,im⟩⟩:=X
 obtain⟨pa,pc,e1⟩:=OwnRow.shape hs.phis
 obtain⟨ia,ic,e2⟩:=OwnRow.shape hs.ins
 obtain⟨np,hnp⟩:∃ n,xph.length=n:=⟨_,rfl⟩
 obtain⟨ni,hni⟩:∃ n,xin.length=n:=⟨_,rfl⟩
 replace e1:phv=.slice pa np pc:=by rw[←hnp];exact e1
 replace e2:inv=.slice ia ni ic:=by rw[←hni];exact e2
 subst e1 e2
 have HQ:=Lib.hid hQ
 have HX:=Lib.hid hX
 have HO:=Lib.hid hO
 have HP:=Lib.hid hp
 have HS:=Lib.hid hs
 have HNP:=Lib.hid hnp
 have HNI:=Lib.hid hni
 have hil:0<ni→i<ni:=by rw[←hni];exact hi
 have hNI:=hO.len
 replace hNI:ni≤700:=by rw[←hni];exact hNI
 have hNP:=hO.phis.1
 replace hNP:np≤3+N:=by rw[←hnp];exact hNP
 have hx:=hs.xbox
 have z0:=hx.cell 0
 have z1:=hx.cell 1
 have z2:=hx.cell 2
 have z4:=hx.cell 4
 have zf:=hx.frozen
 have zl:=hx.lt
 clear hQ hX hO hp hs hnp hni hx hi
 dsimp only at z0 z1 z2 z4
 obtain⟨r,hr,hr12⟩:∃ r:Nat,(n:Int).tmod 12=r∧r<12:=⟨n % 12,rem_nat n 12,Nat.mod_lt _ (by decide)⟩
 have HTG:=Lib.hid (show tg.length≤65+N from HO.out.term.2)
 obtain⟨ta,tc,etv⟩:=nums_lenI (show Ints w0 tv tg from HX.out.2.2.2)
 subst etv
 go_wp2_with (first | (at_builtin;refine wpList_append_nums2 (base:=w1.heap.size) .i64 rfl _ _ 32 rfl 3 (.int .i64 0) 8 Tryz.underlying32 (by kernel_rfl) rfl (by decide) (.slice (some ⟨w1.heap.size,0,none⟩) 0 0) (.slice ta tg.length tc) [] tg rfl rfl (empty_nums w1) ((HX.out.2.2.2.keep HS.out.since).keep ((Since.refl _).alloc _)) (by simp only[List.length_nil];have:=HTG.out;omega) (by simp only[World.alloc,Array.size_push];omega) ?_;intro v2 w2 ho2 ht2 _;rw[List.nil_append]at ho2;have HO2:=Lib.hid ho2;have HSZ2:=Lib.hid ht2.size;have HS2:=Lib.hid ((HS.out.keep ((Since.refl w1).alloc _)).turnRow (empty_nums w1) HS.out.since.size (by decide) ht2);clear ho2 ht2) | (at_builtin;refine wpList_append_nums2 (base:=w1.heap.size) .i64 rfl _ _ 32 rfl 3 (.int .i64 0) 8 Tryz.underlying32 (by kernel_rfl) rfl (by decide) v2 (.slice (some ⟨w2.heap.size,0,none⟩) 1 1) tg [(r:Int)-1] rfl rfl (own_keep HO2.out ((Since.refl _).alloc _)) (one_numsT _ _ _) (by have:=HTG.out;simp only[List.length_cons,List.length_nil];omega) (by have:=HSZ2.out;simp only[World.alloc,Array.size_push]at this ⊢;omega) ?_;intro v3 w3 ho3 ht3 _;obtain⟨va,vc,hv3⟩:=ownT_shape ho3;rw[List.length_append,List.length_singleton]at hv3;subst hv3;have HO3:=Lib.hid ho3;have HS3:=Lib.hid ((HS2.out.keep ((Since.refl w2).alloc _)).turnRow (own_keep HO2.out ((Since.refl _).alloc _)) HS.out.since.size (by decide) ht3);clear ho3 ht3;have b9:=HS3.out.xbox;have s4:=b9.cell 4;have sf:=b9.frozen;have sl:=b9.lt;clear b9))
 have h2:=HS3.out.put (i:=4) (u:=.slice va (tg.length+1) vc) rfl HS3.out.phis HS3.out.ins
 have ho:=own_turn HO3.out ((Turn.refl (fun q=>q=qx) w3).setCell (p:=⟨qx,4,none⟩) rfl (.slice va (tg.length+1) vc)) fun q hq e=>own_not HO3.out HS3.out.xbox (by decide) (e ▸ hq)
 exact HQ.out _ _ p ⟨xph,.slice pa np pc,xin,.slice ia ni ic,⟨kd,ar,av,tg++[(r:Int)-1],.slice va (tg.length+1) vc,im⟩⟩ (frTn_mk rfl rfl (sl_cons rfl (sl_cons rfl (sl_cons rfl (sl_cons rfl (sl_cons rfl (sl_nil _))))))) ⟨h2,HP.out,
  { HO.out.same with
   r:=⟨HO.out.r.phis,HO.out.r.ins,{ HO.out.r.term with tg:=fun y hy=>(List.mem_append.1 hy).elim (HO.out.r.term.tg y) fun hy=>by rw[List.mem_singleton.1 hy];exact⟨by omega,by omega⟩ }⟩
   term:=⟨HO.out.same.term.1,by have:=HTG.out;show (tg++[_]).length≤_;rw[List.length_append,List.length_singleton];omega⟩ },
  h2.done (h2.oldPh HX.out.1) (h2.oldIn HX.out.2.1) HX.out.2.2.1 fun w' t=>ints_ownT (h2.lateRow ho (by decide) t)⟩
set_option maxHeartbeats 4000000 in
set_option maxRecDepth 1000000 in
theorem tn_way10 (w0:World) (N:Nat) (X:FBlk):TnWay w0 N X 10:=by
 intro fb rq bb nb bc qx bl p phv inv bi n i a0 w1 Q0 hfr hX hO hN hp hn hi hs hQ
 obtain⟨u,ha0,hu⟩:=frameTn_ex hfr
 obtain⟨g1,g2,s2,s4,s5,s8,s9,s10,s11,s60,g3⟩:=hfr
 have e2:=hu 2 _ s2
 have e4:=hu 4 _ s4
 have e5:=hu 5 _ s5
 have e8:=hu 8 _ s8
 have e9:=hu 9 _ s9
 have e10:=hu 10 _ s10
 have e11:=hu 11 _ s11
 have e60:=hu 60 _ s60
 rw[e2,e4,e5,e8,e9,e10,e11,e60]at ha0
 subst ha0
 clear hu g1 g2 g3 e2 s2 e4 s4 e5 s5 e8 s8 e9 s9 e10 s10 e11 s11 e60 s60
 conv=>arg 2;whnf
 obtain⟨xph,xphv,xin,xinv,⟨kd,ar,av,tg,tv,im⟩⟩:=X
 obtain⟨pa,pc,e1⟩:=OwnRow.shape hs.phis
 obtain⟨ia,ic,e2⟩:=OwnRow.shape hs.ins
 obtain⟨np,hnp⟩:∃ n,xph.length=n:=⟨_,rfl⟩
 obtain⟨ni,hni⟩:∃ n,xin.length=n:=⟨_,rfl⟩
 replace e1:phv=.slice pa np pc:=by rw[←hnp];exact e1
 replace e2:inv=.slice ia ni ic:=by rw[←hni];exact e2
 subst e1 e2
 have HQ:=Lib.hid hQ
 have HX:=Lib.hid hX
 have HO:=Lib.hid hO
 have HP:=Lib.hid hp
 have HS:=Lib.hid hs
 have HNP:=Lib.hid hnp
 have HNI:=Lib.hid hni
 have hil:0<ni→i<ni:=by rw[←hni];exact hi
 have hNI:=hO.len
 replace hNI:ni≤700:=by rw[←hni];exact hNI
 have hNP:=hO.phis.1
 replace hNP:np≤3+N:=by rw[←hnp];exact hNP
 have hx:=hs.xbox
 have z0:=hx.cell 0
 have z1:=hx.cell 1
 have z2:=hx.cell 2
 have z4:=hx.cell 4
 have zf:=hx.frozen
 have zl:=hx.lt
 clear hQ hX hO hp hs hnp hni hx hi
 dsimp only at z0 z1 z2 z4
 obtain⟨r,hr,hr11⟩:∃ r:Nat,(n:Int).tmod 11=r∧r<11:=⟨n % 11,rem_nat n 11,Nat.mod_lt _ (by decide)⟩
 have HTG:=Lib.hid (show tg.length≤65+N from HO.out.term.2)
 obtain⟨ta,tc,etv⟩:=nums_lenI (show Ints w0 tv tg from HX.out.2.2.2)
 obtain⟨nt,hnt⟩:∃ n,tg.length=n:=⟨_,rfl⟩
 rw[hnt]at etv
 subst etv
 have HNT:=Lib.hid hnt
 clear hnt
 by_cases h0:0<nt
 ·obtain⟨j,hj,hjt⟩:∃ j:Nat,(n:Int).tmod nt=j∧j<nt:=⟨n % nt,rem_nat n nt,Nat.mod_lt _ h0⟩
  go_upto_region 54 with (at_builtin;refine wpList_append_nums2 (base:=w1.heap.size) .i64 rfl _ _ 32 rfl 3 (.int .i64 0) 8 Tryz.underlying32 (by kernel_rfl) rfl (by decide) (.slice (some ⟨w1.heap.size,0,none⟩) 0 0) (.slice ta nt tc) [] tg rfl rfl (empty_nums w1) ((HX.out.2.2.2.keep HS.out.since).keep ((Since.refl _).alloc _)) (by simp only[List.length_nil];have:=HTG.out;omega) (by simp only[World.alloc,Array.size_push];omega) ?_;intro v2 w2 ho2 ht2 _;rw[List.nil_append]at ho2;have HO2:=Lib.hid ho2;have HSZ2:=Lib.hid ht2.size;have HS2:=Lib.hid ((HS.out.keep ((Since.refl w1).alloc _)).turnRow (empty_nums w1) HS.out.since.size (by decide) ht2);obtain⟨tb,tcap,hv2,hcap,_,hbase,htl,hcell,hfz⟩:=own_where ho2 (by rw[HNT.out];exact h0);rw[HNT.out]at hv2 hcap;subst hv2;have s9:=hcell j _ (ints_map tg j _ (List.getElem?_eq_getElem (by rw[HNT.out];exact hjt)));clear ho2 ht2 hcell)
  obtain⟨w3,hw3⟩:∃ z,z=w2.setCell ⟨tb,j,none⟩ (.int .i64 (r:Int)):=⟨_,rfl⟩
  have ht3:Turn (fun q=>some tb=some q) w2 w3:=by rw[hw3];exact (Turn.refl (fun q=>some tb=some q) w2).setCell (p:=⟨tb,j,none⟩) rfl _
  have HO3:=Lib.hid (show w3.ownsRow w1.heap.size 3 1 (.slice (some ⟨tb,0,none⟩) nt tcap) (tg.set j r).length ((tg.set j r).map (Value.int .i64)) from by rw[hw3];exact own_setInt HO2.out HNT.out _)
  have HS3:=Lib.hid (HS2.out.turnRow HO2.out HS.out.since.size (by decide) ht3)
  rw[←hw3]
  have b9:=HS3.out.xbox
  have s4:=b9.cell 4
  have sf:=b9.frozen
  have sl:=b9.lt
  clear b9 hw3 ht3 s9 hfz
  go_wp2_with fail
  have h2:=HS3.out.put (i:=4) (u:=.slice (some ⟨tb,0,none⟩) nt tcap) rfl HS3.out.phis HS3.out.ins
  have ho:=own_turn HO3.out ((Turn.refl (fun q=>q=qx) w3).setCell (p:=⟨qx,4,none⟩) rfl (.slice (some ⟨tb,0,none⟩) nt tcap)) fun q hq e=>own_not HO3.out HS3.out.xbox (by decide) (e ▸ hq)
  exact HQ.out _ _ p ⟨xph,.slice pa np pc,xin,.slice ia ni ic,⟨kd,ar,av,tg.set j r,.slice (some ⟨tb,0,none⟩) nt tcap,im⟩⟩ (frTn_mk rfl rfl (sl_cons rfl (sl_cons rfl (sl_cons rfl (sl_cons rfl (sl_cons rfl (sl_nil _))))))) ⟨h2,HP.out,
   { HO.out.same with
    r:=⟨HO.out.r.phis,HO.out.r.ins,{ HO.out.r.term with tg:=fun y hy=>(mem_set hy).elim (fun e=>by rw[e];exact⟨by omega,by omega⟩) (HO.out.r.term.tg y) }⟩
    term:=⟨HO.out.same.term.1,by show (tg.set j _).length≤_;rw[List.length_set];exact HO.out.same.term.2⟩ },
   h2.done (h2.oldPh HX.out.1) (h2.oldIn HX.out.2.1) HX.out.2.2.1 fun w' t=>ints_ownT (h2.lateRow ho (by decide) t)⟩
 ·obtain rfl:nt=0:=by omega
  go_wp2_with fail
  exact HQ.out _ _ p ⟨xph,.slice pa np pc,xin,.slice ia ni ic,⟨kd,ar,av,tg,.slice ta 0 tc,im⟩⟩ (frTn_mk rfl rfl (sl_cons rfl (sl_cons rfl (sl_cons rfl (sl_cons rfl (sl_cons rfl (sl_nil _))))))) ⟨HS.out,HP.out,{ HO.out.same with r:=⟨HO.out.r.phis,HO.out.r.ins,HO.out.r.term⟩ },HS.out.done (HS.out.oldPh HX.out.1) (HS.out.oldIn HX.out.2.1) HX.out.2.2.1 (HS.out.nums HX.out.2.2.2)⟩
set_option maxHeartbeats 4000000 in
set_option maxRecDepth 1000000 in
theorem tn_way11 (w0:World) (N:Nat) (X:FBlk):TnWay w0 N X 11:=by
 intro fb rq bb nb bc qx bl p phv inv bi n i a0 w1 Q0 hfr hX hO hN hp hn hi hs hQ
 obtain⟨u,ha0,hu⟩:=frameTn_ex hfr
 obtain⟨g1,g2,s2,s4,s5,s8,s9,s10,s11,s60,g3⟩:=hfr
 have e2:=hu 2 _ s2
 have e4:=hu 4 _ s4
 have e5:=hu 5 _ s5
 have e8:=hu 8 _ s8
 have e9:=hu 9 _ s9
 have e10:=hu 10 _ s10
 have e11:=hu 11 _ s11
 have e60:=hu 60 _ s60
 rw[e2,e4,e5,e8,e9,e10,e11,e60]at ha0
 subst ha0
 clear hu g1 g2 g3 e2 s2 e4 s4 e5 s5 e8 s8 e9 s9 e10 s10 e11 s11 e60 s60
 conv=>arg 2;whnf
 obtain⟨xph,xphv,xin,xinv,⟨kd,ar,av,tg,tv,im⟩⟩:=X
 obtain⟨pa,pc,e1⟩:=OwnRow.shape hs.phis
 obtain⟨ia,ic,e2⟩:=OwnRow.shape hs.ins
 obtain⟨np,hnp⟩:∃ n,xph.length=n:=⟨_,rfl⟩
 obtain⟨ni,hni⟩:∃ n,xin.length=n:=⟨_,rfl⟩
 replace e1:phv=.slice pa np pc:=by rw[←hnp];exact e1
 replace e2:inv=.slice ia ni ic:=by rw[←hni];exact e2
 subst e1 e2
 have HQ:=Lib.hid hQ
 have HX:=Lib.hid hX
 have HO:=Lib.hid hO
 have HP:=Lib.hid hp
 have HS:=Lib.hid hs
 have HNP:=Lib.hid hnp
 have HNI:=Lib.hid hni
 have hil:0<ni→i<ni:=by rw[←hni];exact hi
 have hNI:=hO.len
 replace hNI:ni≤700:=by rw[←hni];exact hNI
 have hNP:=hO.phis.1
 replace hNP:np≤3+N:=by rw[←hnp];exact hNP
 have hx:=hs.xbox
 have z0:=hx.cell 0
 have z1:=hx.cell 1
 have z2:=hx.cell 2
 have z4:=hx.cell 4
 have zf:=hx.frozen
 have zl:=hx.lt
 clear hQ hX hO hp hs hnp hni hx hi
 dsimp only at z0 z1 z2 z4
 go_wp2_with (at_builtin;refine wpList_append_one2 (base:=w0.heap.size) fpcells 2 fpcells_len (by decide) rfl _ _ 55 rfl 60 (.agg #[.int .i64 0,.slice none 0 0]) 32 Tryz.underlying55 (by kernel_rfl) rfl (.slice pa np pc) xph ⟨(n:Int),[],.slice none 0 0⟩ w1.heap.size 1 60 rfl rfl (OwnRow.keep HS.out.phis ((Since.refl _).alloc _)) (HeapIs.new _ _ _) (fun u hu=>by simp only[fpcells,List.mem_cons,List.not_mem_nil,or_false]at hu;rcases hu with rfl | rfl<;>rfl) (by rw[HNP.out];unfold maxLen;omega) (by rw[HNP.out];omega) (by have:=HS.out.since.size;simp only[World.alloc,Array.size_push];omega) ?_;intro v9 w9 ho9 ht9 _;obtain⟨va,vc,hv9⟩:=OwnRow.shape ho9;rw[List.length_append,HNP.out,List.length_singleton]at hv9;subst hv9;have hs9:=HS.out.keep ((Since.refl w1).alloc (.cells #[.int .i64 (n:Int),.slice none 0 0] 60));have b9:=hs9.xbox.turn ht9 (own_not hs9.phis hs9.xbox (by decide));have s0:=b9.cell 0;have sf:=b9.frozen;have sl:=b9.lt;have H2:=Lib.hid (hs9.addPh ho9 ht9);clear b9 ho9 ht9 hs9)
 exact HQ.out _ _ p ⟨xph++[⟨(n:Int),[],.slice none 0 0⟩],_,xin,.slice ia ni ic,⟨kd,ar,av,tg,tv,im⟩⟩ (frTn_mk rfl rfl (sl_cons rfl (sl_cons rfl (sl_cons rfl (sl_cons rfl (sl_cons rfl (sl_nil _))))))) ⟨H2.out,HP.out,
  { HO.out.same with
   r:=⟨fun z hz=>by
    rcases List.mem_append.1 hz with hz|hz
    ·exact HO.out.r.phis z hz
    ·rw[List.mem_singleton.1 hz];exact⟨⟨by show (_:Int)≤(n:Int);omega,by show (n:Int)≤_;omega⟩,fun y hy=>by cases hy⟩,HO.out.r.ins,HO.out.r.term⟩
   phis:=⟨by show (xph++[_]).length≤_;rw[List.length_append,List.length_singleton,HNP.out];omega,fun z hz=>by
    rcases List.mem_append.1 hz with hz|hz
    ·exact HO.out.same.phis.2 z hz
    ·rw[List.mem_singleton.1 hz];exact Nat.zero_le _⟩ },
  H2.out.done (fun z hz=>by
   rcases List.mem_append.1 hz with hz|hz
   ·exact H2.out.oldPh HX.out.1 z hz
   ·rw[List.mem_singleton.1 hz];exact fun w' t=>.inl ⟨none,rfl,rfl⟩) (H2.out.oldIn HX.out.2.1) HX.out.2.2.1 (H2.out.nums HX.out.2.2.2)⟩
end Go.Proofs.YtmhojfpidedjeaaGreatDoor
