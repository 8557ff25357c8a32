/- jacquardref03.Turned: an instruction less. -/
import Derived.Test.YtmhojfpidedjeaaGreatDoorTq08
namespace Go.Proofs.YtmhojfpidedjeaaGreatDoor
open Go.RowKit
set_option linter.unusedVariables false
set_option maxHeartbeats 4000000 in
set_option maxRecDepth 1000000 in
theorem tn_way8 (w0:World) (N:Nat) (X:FBlk):TnWay w0 N X 8:=by
 intro fb rq bb nb bc qx bl p phv inv bi n i a0 w1 Q0 hfr hX hO hN hp hn hi hs hQ
 obtain⟨u,ha0,hu⟩:=frameTn_ex hfr
 obtain⟨g1,g2,s2,s4,s5,s8,s9,s10,s11,s60,g3⟩:=hfr
 have e2:=hu 2 _ s2
 have e4:=hu 4 _ s4
 have e5:=hu 5 _ s5
 have e8:=hu 8 _ s8
 have e9:=hu 9 _ s9
 have e10:=hu 10 _ s10
 have e11:=hu 11 _ s11
 have e60:=hu 60 _ s60
 rw[e2,e4,e5,e8,e9,e10,e11,e60]at ha0
 subst ha0
 clear hu g1 g2 g3 e2 s2 e4 s4 e5 s5 e8 s8 e9 s9 e10 s10 e11 s11 e60 s60
 conv=>arg 2;whnf
 obtain⟨xph,xphv,xin,xinv,⟨kd,ar,av,tg,tv,im⟩⟩:=X
 obtain⟨pa,pc,e1⟩:=OwnRow.shape hs.phis
 obtain⟨ia,ic,e2⟩:=OwnRow.shape hs.ins
 obtain⟨np,hnp⟩:∃ n,xph.length=n:=⟨_,rfl⟩
 obtain⟨ni,hni⟩:∃ n,xin.length=n:=⟨_,rfl⟩
 replace e1:phv=.slice pa np pc:=by rw[←hnp];exact e1
 replace e2:inv=.slice ia ni ic:=by rw[←hni];exact e2
 subst e1 e2
 have HQ:=Lib.hid hQ
 have HX:=Lib.hid hX
 have HO:=Lib.hid hO
 have HP:=Lib.hid hp
 have HS:=Lib.hid hs
 have HNP:=Lib.hid hnp
 have HNI:=Lib.hid hni
 have hil:0<ni→i<ni:=by rw[←hni];exact hi
 have hNI:=hO.len
 replace hNI:ni≤700:=by rw[←hni];exact hNI
 have hNP:=hO.phis.1
 replace hNP:np≤3+N:=by rw[←hnp];exact hNP
 have hx:=hs.xbox
 have z0:=hx.cell 0
 have z1:=hx.cell 1
 have z2:=hx.cell 2
 have z4:=hx.cell 4
 have zf:=hx.frozen
 have zl:=hx.lt
 clear hQ hX hO hp hs hnp hni hx hi
 dsimp only at z0 z1 z2 z4
 by_cases h0:0<ni
 ·have hin:i<ni:=hil h0
  obtain⟨ib,ic2,e,hic,_,_,il9,_,ifz⟩:=own_where HS.out.ins (by rw[HNI.out];exact h0)
  rw[HNI.out]at e hic
  cases e
  obtain⟨y,hy⟩:∃ y,xin[i]? = some y:=⟨_,List.getElem?_eq_getElem (by rw[HNI.out];exact hin)⟩
  have HYC:=Lib.hid (own_at ficells_len HS.out.ins hy)
  have HY:=Lib.hid hy
  clear hy
  obtain⟨ra,hra⟩:∃ ra,(if ic=i+1 then some (⟨ib,0,none⟩:Addr) else some ⟨ib,(i+1)*5,none⟩)=ra:=⟨_,rfl⟩
  go_upto_region 44 with fail
  refine wp_region_since_tail 9 rfl (by decide +kernel) (by decide +kernel) (by decide +kernel) (by decide)
   [Is (.pointer (some ⟨qx,1,none⟩)),Is (.slice (some ⟨ib,0,none⟩) ni ic),Is (.int .i64 (i:Int)),Is (.slice (some ⟨ib,0,none⟩) i ic),Is (.pointer (some ⟨qx,1,none⟩)),Is (.slice (some ⟨ib,0,none⟩) ni ic),Is (.int .i64 (i:Int)),Is (.int .i64 ((i:Int)+1)),Is (.slice ra (ni-(i+1)) (ic-(i+1)))]
   (by repeat (first | exact trivial | refine⟨Is.stable _,?_⟩ | refine⟨IsNums.stable _ _,?_⟩ | refine⟨IsRows.stable _ _,?_⟩)) ⟨?_,?_,?_,?_,?_,?_,?_,?_,?_,trivial⟩ ?_
  all_goals
   intro vs w8 hs hk
   try intro _
   clear z0 z1 z2 z4 zf zl
   simp only[List.take,List.drop,putAll,Act.put,Knows,KnowsAll,nthF,Is,List.setIfInBounds_toArray,List.set_cons_zero,List.set_cons_succ,Nat.reduceAdd]at hk ⊢
   try simp only[hk]
  ·go_wp2
   exact⟨_,rfl,rfl,Since.refl _⟩
  ·have hb:=(HS.out.keep hs).xbox
   have y1:=hb.cell 1
   have yl:=hb.lt
   clear hb
   go_wp2
   exact⟨_,rfl,rfl,Since.refl _⟩
  ·go_wp2
   exact⟨_,rfl,rfl,Since.refl _⟩
  ·go_wp2
   exact⟨_,rfl,rfl,Since.refl _⟩
  ·go_wp2
   exact⟨_,rfl,rfl,Since.refl _⟩
  ·have hb:=(HS.out.keep hs).xbox
   have y1:=hb.cell 1
   have yl:=hb.lt
   clear hb
   go_wp2
   exact⟨_,rfl,rfl,Since.refl _⟩
  ·go_wp2
   exact⟨_,rfl,rfl,Since.refl _⟩
  ·go_wp2
   exact⟨_,rfl,rfl,Since.refl _⟩
  ·go_wp2
   exact⟨_,rfl,rfl,Since.refl _⟩
  ·have HS8:=Lib.hid (HS.out.keep hs)
   clear hs hk
   obtain⟨off,hoff,hoc⟩:∃ off,ra=some ⟨ib,off,none⟩∧(0<ni-(i+1)→off=(i+1)*5):=by
    by_cases hc:ic=i+1
    ·rw[if_pos hc]at hra;exact⟨0,hra.symm,fun h=>by omega⟩
    ·rw[if_neg hc]at hra;exact⟨_,hra.symm,fun _=>rfl⟩
   subst hoff
   have HOC:=Lib.hid hoc
   have HDL:=Lib.hid (show (xin.drop (i+1)).length=ni-(i+1) from by rw[List.length_drop,HNI.out])
   have HCUT:=Lib.hid (OwnRow.cut ficells_len HS8.out.ins (show i≤ni by omega))
   obtain⟨m,hm⟩:∃ m,(xin.take i++xin.drop (i+1)).length=m:=⟨_,rfl⟩
   have hm1:m≤ni:=by rw[←hm,List.length_append,List.length_take,HDL.out,HNI.out];omega
   have HM:=Lib.hid hm
   have HMEM:=Lib.hid (show ∀ x∈xin.take i++xin.drop (i+1),x∈xin from fun x hx=>(List.mem_append.1 hx).elim List.mem_of_mem_take List.mem_of_mem_drop)
   clear hra hoc hm
   go_wp2_with (at_builtin;refine wpList_append_rowT w0.heap.size ficells 5 ficells_len (by decide) rfl _ _ 52 rfl 51 (.agg #[.int .i64 0,.int .i64 0,.int .i64 0,.slice none 0 0,.int .i32 0]) 56 Tryz.underlying52 (by kernel_rfl) rfl (by decide) (.slice (some ⟨ib,0,none⟩) i ic) (xin.take i) (xin.drop (i+1)) (fun x hx=>fi_one (row_all HX.out.2.1 x (List.mem_of_mem_drop hx))) ib off (ni-(i+1)) (ic-(i+1)) rfl rfl HCUT.out HDL.out (fun j t x hj ht=>by have hl:=(List.getElem?_eq_some_iff.1 hj).1;rw[HDL.out]at hl;rw[List.getElem?_drop]at hj;have h9:=own_at ficells_len HS8.out.ins hj t ht;rw[HOC.out (by omega),show (i+1)*5+j*5+t=(i+1+j)*5+t from by omega];exact h9) (by rw[List.length_take];omega) HS8.out.since.size ?_;intro v9 w9 ho9 ht9 _;obtain⟨va,vc,hv9⟩:=OwnRow.shape ho9;rw[HM.out]at hv9;subst hv9;have b9:=HS8.out.xbox.turn ht9 (own_not HS8.out.ins HS8.out.xbox (by decide));have s1:=b9.cell 1;have sf:=b9.frozen;have sl:=b9.lt;have H2:=Lib.hid (HS8.out.addIn ho9 ht9);clear b9 ho9 ht9)
   exact HQ.out _ _ p ⟨xph,.slice pa np pc,xin.take i++xin.drop (i+1),.slice va m vc,⟨kd,ar,av,tg,tv,im⟩⟩ (frTn_mk rfl rfl (sl_cons rfl (sl_cons rfl (sl_cons rfl (sl_cons rfl (sl_cons rfl (sl_nil _))))))) ⟨H2.out,HP.out,
    { HO.out.same with
     r:=⟨HO.out.r.phis,fun z hz=>HO.out.r.ins z (HMEM.out z hz),HO.out.r.term⟩
     args:=fun z hz=>HO.out.args z (HMEM.out z hz)
     less:=by show (xin.take i++_).length≤xin.length;rw[HM.out,HNI.out];exact hm1 },
    H2.out.done (H2.out.oldPh HX.out.1) (fun z hz=>H2.out.oldIn HX.out.2.1 z (HMEM.out z hz)) HX.out.2.2.1 (H2.out.nums HX.out.2.2.2)⟩
 ·obtain rfl:ni=0:=by omega
  go_wp2_with fail
  exact HQ.out _ _ p ⟨xph,.slice pa np pc,xin,.slice ia 0 ic,⟨kd,ar,av,tg,tv,im⟩⟩ (frTn_mk rfl rfl (sl_cons rfl (sl_cons rfl (sl_cons rfl (sl_cons rfl (sl_cons rfl (sl_nil _))))))) ⟨HS.out,HP.out,{ HO.out.same with r:=⟨HO.out.r.phis,HO.out.r.ins,HO.out.r.term⟩ },HS.out.done (HS.out.oldPh HX.out.1) (HS.out.oldIn HX.out.2.1) HX.out.2.2.1 (HS.out.nums HX.out.2.2.2)⟩
end Go.Proofs.YtmhojfpidedjeaaGreatDoor
