/- jacquardref03.Turned: one more pair. jacquardref03.Turned: the walk. -/
import Derived.Test.YtmhojfpidedjeaaGreatDoorTq08
import Derived.Test.YtmhojfpidedjeaaGreatDoorTq09
import Derived.Test.YtmhojfpidedjeaaGreatDoorTq10
import Derived.Test.YtmhojfpidedjeaaGreatDoorTq11
import Derived.Test.YtmhojfpidedjeaaGreatDoorTq12
import Derived.Test.YtmhojfpidedjeaaGreatDoorTq13
import Derived.Test.YtmhojfpidedjeaaGreatDoorTq14
import Derived.Test.YtmhojfpidedjeaaGreatDoorTq27
namespace Go.Proofs.YtmhojfpidedjeaaGreatDoor
open Go.RowKit
set_option linter.unusedVariables false
set_option maxHeartbeats 4000000 in
set_option maxRecDepth 1000000 in
theorem tn_way6 (w0:World) (N:Nat) (X:FBlk):TnWay w0 N X 6:=by
 intro fb rq bb nb bc qx bl p phv inv bi n i a0 w1 Q0 hfr hX hO hN hp hn hi hs hQ
 obtain⟨u,ha0,hu⟩:=frameTn_ex hfr
 obtain⟨g1,g2,s2,s4,s5,s8,s9,s10,s11,s60,g3⟩:=hfr
 have e2:=hu 2 _ s2
 have e4:=hu 4 _ s4
 have e5:=hu 5 _ s5
 have e8:=hu 8 _ s8
 have e9:=hu 9 _ s9
 have e10:=hu 10 _ s10
 have e11:=hu 11 _ s11
 have e60:=hu 60 _ s60
 rw[e2,e4,e5,e8,e9,e10,e11,e60]at ha0
 subst ha0
 clear hu g1 g2 g3 e2 s2 e4 s4 e5 s5 e8 s8 e9 s9 e10 s10 e11 s11 e60 s60
 conv=>arg 2;whnf
 obtain⟨xph,xphv,xin,xinv,⟨kd,ar,av,tg,tv,im⟩⟩:=X
 obtain⟨pa,pc,e1⟩:=OwnRow.shape hs.phis
 obtain⟨ia,ic,e2⟩:=OwnRow.shape hs.ins
 obtain⟨np,hnp⟩:∃ n,xph.length=n:=⟨_,rfl⟩
 obtain⟨ni,hni⟩:∃ n,xin.length=n:=⟨_,rfl⟩
 replace e1:phv=.slice pa np pc:=by rw[←hnp];exact e1
 replace e2:inv=.slice ia ni ic:=by rw[←hni];exact e2
 subst e1 e2
 have HQ:=Lib.hid hQ
 have HX:=Lib.hid hX
 have HO:=Lib.hid hO
 have HP:=Lib.hid hp
 have HS:=Lib.hid hs
 have HNP:=Lib.hid hnp
 have HNI:=Lib.hid hni
 have hil:0<ni→i<ni:=by rw[←hni];exact hi
 have hNI:=hO.len
 replace hNI:ni≤700:=by rw[←hni];exact hNI
 have hNP:=hO.phis.1
 replace hNP:np≤3+N:=by rw[←hnp];exact hNP
 have hx:=hs.xbox
 have z0:=hx.cell 0
 have z1:=hx.cell 1
 have z2:=hx.cell 2
 have z4:=hx.cell 4
 have zf:=hx.frozen
 have zl:=hx.lt
 clear hQ hX hO hp hs hnp hni hx hi
 dsimp only at z0 z1 z2 z4
 by_cases h0:0<np
 ·obtain⟨j,hj,hjt⟩:∃ j:Nat,(n:Int).tmod np=j∧j<np:=⟨n % np,rem_nat n np,Nat.mod_lt _ h0⟩
  obtain⟨r,hr,hr5⟩:∃ r:Nat,(n:Int).tmod 5=r∧r<5:=⟨n % 5,rem_nat n 5,Nat.mod_lt _ (by decide)⟩
  obtain⟨pb,pc2,e,hpc,_,_,pl9,_,pfz⟩:=own_where HS.out.phis (by rw[HNP.out];exact h0)
  rw[HNP.out]at e hpc
  cases e
  obtain⟨y,hy⟩:∃ y,xph[j]? = some y:=⟨_,List.getElem?_eq_getElem (by rw[HNP.out];exact hjt)⟩
  have HYC:=Lib.hid (own_at fpcells_len HS.out.phis hy)
  have HY:=Lib.hid hy
  clear hy
  obtain⟨yd,yi,yv⟩:=y
  have HYI:=Lib.hid (show PairsIn w0 yv yi from row_all HX.out.1 _ (List.mem_of_getElem? HY.out))
  obtain⟨ya,yc,eyv,_⟩:=RowIn.shape HYI.out
  obtain⟨ny,hny⟩:∃ n,yi.length=n:=⟨_,rfl⟩
  rw[hny]at eyv
  subst eyv
  have HNY:=Lib.hid hny
  have hnyK:ny≤9+N:=by rw[←hny];exact HO.out.phis.2 _ (List.mem_of_getElem? HY.out)
  clear hny
  go_wp2_with fail
  refine wp_region_pivotG 24 (fun i=>Nat.blt i 7) (fun v w=>OwnRow prcells 2 71 w1.heap.size w v (yi++[((r:Int),(n:Int))])∧TnS w0 fb rq bb nb bc qx bl p (.slice (some ⟨pb,0,none⟩) np pc) xph (.slice ia ni ic) xin kd av tv im w) rfl (by decide +kernel) (by decide +kernel) (by decide +kernel) (by decide +kernel) (by decide)
   [Is (.pointer (some ⟨qx,0,none⟩)),Is (.slice (some ⟨pb,0,none⟩) np pc),Is (.int .i64 (n:Int)),Is (.pointer (some ⟨qx,0,none⟩)),Is (.slice (some ⟨pb,0,none⟩) np pc),Is (.int .i64 (np:Int)),Is (.int .i64 (j:Int)),EmptyP w1,Is (.pointer (some ⟨qx,0,none⟩)),Is (.slice (some ⟨pb,0,none⟩) np pc),Is (.int .i64 (n:Int)),Is (.pointer (some ⟨qx,0,none⟩)),Is (.slice (some ⟨pb,0,none⟩) np pc),Is (.int .i64 (np:Int)),Is (.int .i64 (j:Int)),Is (.pointer (some ⟨pb,j*2,none⟩)),Is (.pointer (some ⟨pb,j*2+1,none⟩)),Is (.slice ya ny yc),CopyP w1 yi,Is (.int .i64 (n:Int)),Is (.int .i64 (r:Int)),Is (.int .i64 (n:Int)),Is (.agg #[.int .i64 (r:Int),.int .i64 (n:Int)]),NewRow #[.int .i64 (r:Int),.int .i64 (n:Int)] 71 1]
   (by repeat (first | exact trivial | refine⟨Is.stable _,?_⟩ | refine⟨NewRow.stable _ _ _,?_⟩ | refine⟨EmptyP.stable _,?_⟩ | refine⟨CopyP.stable _ _,?_⟩))
   (by repeat (first | exact trivial | refine⟨fun h=>absurd h (by decide),?_⟩ | refine⟨fun _ v w w2 h=>h,?_⟩))
   ⟨?_,?_,?_,?_,?_,?_,?_,?_,?_,?_,?_,?_,?_,?_,?_,?_,?_,?_,?_,?_,?_,?_,?_,?_,trivial⟩ ⟨fun _ vs w8 hG hk=>?_,fun _ vs w8 hG hk=>?_,fun _ vs w8 hG hk=>?_,fun _ vs w8 hG hk=>?_,fun _ vs w8 hG hk=>?_,fun _ vs w8 hG hk=>?_,fun _ vs w8 hG hk=>?_,fun h=>absurd h (by decide),fun h=>absurd h (by decide),fun h=>absurd h (by decide),fun h=>absurd h (by decide),fun h=>absurd h (by decide),fun h=>absurd h (by decide),fun h=>absurd h (by decide),fun h=>absurd h (by decide),fun h=>absurd h (by decide),fun h=>absurd h (by decide),fun h=>absurd h (by decide),fun h=>absurd h (by decide),fun h=>absurd h (by decide),fun h=>absurd h (by decide),fun h=>absurd h (by decide),fun h=>absurd h (by decide),fun h=>absurd h (by decide),trivial⟩ ?_ ?_
  ·intro vs w8 hs hk _
   clear z0 z1 z2 z4 zf zl
   simp only[List.take,putAll,Act.put,Knows,List.setIfInBounds_toArray,List.set_cons_zero,List.set_cons_succ,Nat.reduceAdd]at hk ⊢
   try simp only[hk]
   go_wp2
   exact⟨_,rfl,rfl,Since.refl _⟩
  ·intro vs w8 hs hk _
   clear z0 z1 z2 z4 zf zl
   simp only[List.take,putAll,Act.put,Knows,nthF,Is,List.setIfInBounds_toArray,List.set_cons_zero,List.set_cons_succ,Nat.reduceAdd]at hk ⊢
   try simp only[hk]
   have hb:=(HS.out.keep hs).xbox
   have y0:=hb.cell 0
   have yl:=hb.lt
   clear hb
   go_wp2
   exact⟨_,rfl,rfl,Since.refl _⟩
  ·intro vs w8 hs hk _
   clear z0 z1 z2 z4 zf zl
   simp only[List.take,putAll,Act.put,Knows,List.setIfInBounds_toArray,List.set_cons_zero,List.set_cons_succ,Nat.reduceAdd]at hk ⊢
   try simp only[hk]
   go_wp2
   exact⟨_,rfl,rfl,Since.refl _⟩
  ·intro vs w8 hs hk _
   clear z0 z1 z2 z4 zf zl
   simp only[List.take,putAll,Act.put,Knows,List.setIfInBounds_toArray,List.set_cons_zero,List.set_cons_succ,Nat.reduceAdd]at hk ⊢
   try simp only[hk]
   go_wp2
   exact⟨_,rfl,rfl,Since.refl _⟩
  ·intro vs w8 hs hk _
   clear z0 z1 z2 z4 zf zl
   simp only[List.take,putAll,Act.put,Knows,nthF,Is,List.setIfInBounds_toArray,List.set_cons_zero,List.set_cons_succ,Nat.reduceAdd]at hk ⊢
   try simp only[hk]
   have hb:=(HS.out.keep hs).xbox
   have y0:=hb.cell 0
   have yl:=hb.lt
   clear hb
   go_wp2
   exact⟨_,rfl,rfl,Since.refl _⟩
  ·intro vs w8 hs hk _
   clear z0 z1 z2 z4 zf zl
   simp only[List.take,putAll,Act.put,Knows,nthF,Is,List.setIfInBounds_toArray,List.set_cons_zero,List.set_cons_succ,Nat.reduceAdd]at hk ⊢
   try simp only[hk]
   go_wp2
   exact⟨_,rfl,rfl,Since.refl _⟩
  ·intro vs w8 hs hk _
   clear z0 z1 z2 z4 zf zl
   simp only[List.take,putAll,Act.put,Knows,nthF,Is,List.setIfInBounds_toArray,List.set_cons_zero,List.set_cons_succ,Nat.reduceAdd]at hk ⊢
   try simp only[hk]
   go_wp2
   exact⟨_,rfl,rfl,Since.refl _⟩
  ·intro vs w8 hs hk _
   clear z0 z1 z2 z4 zf zl
   simp only[List.take,putAll,Act.put,Knows,List.setIfInBounds_toArray,List.set_cons_zero,List.set_cons_succ,Nat.reduceAdd]at hk ⊢
   try simp only[hk]
   go_wp2
   exact⟨_,rfl,⟨_,rfl,own_base (own_new prcells 2 71 w8 [] 0 prcells_len rfl (by decide) #[] rfl) hs.size⟩,(Since.refl _).alloc _⟩
  ·intro vs w8 hs hk _
   clear z0 z1 z2 z4 zf zl
   simp only[List.take,putAll,Act.put,Knows,List.setIfInBounds_toArray,List.set_cons_zero,List.set_cons_succ,Nat.reduceAdd]at hk ⊢
   try simp only[hk]
   go_wp2
   exact⟨_,rfl,rfl,Since.refl _⟩
  ·intro vs w8 hs hk _
   clear z0 z1 z2 z4 zf zl
   simp only[List.take,putAll,Act.put,Knows,nthF,Is,List.setIfInBounds_toArray,List.set_cons_zero,List.set_cons_succ,Nat.reduceAdd]at hk ⊢
   try simp only[hk]
   have hb:=(HS.out.keep hs).xbox
   have y0:=hb.cell 0
   have yl:=hb.lt
   clear hb
   go_wp2
   exact⟨_,rfl,rfl,Since.refl _⟩
  ·intro vs w8 hs hk _
   clear z0 z1 z2 z4 zf zl
   simp only[List.take,putAll,Act.put,Knows,List.setIfInBounds_toArray,List.set_cons_zero,List.set_cons_succ,Nat.reduceAdd]at hk ⊢
   try simp only[hk]
   go_wp2
   exact⟨_,rfl,rfl,Since.refl _⟩
  ·intro vs w8 hs hk _
   clear z0 z1 z2 z4 zf zl
   simp only[List.take,putAll,Act.put,Knows,List.setIfInBounds_toArray,List.set_cons_zero,List.set_cons_succ,Nat.reduceAdd]at hk ⊢
   try simp only[hk]
   go_wp2
   exact⟨_,rfl,rfl,Since.refl _⟩
  ·intro vs w8 hs hk _
   clear z0 z1 z2 z4 zf zl
   simp only[List.take,putAll,Act.put,Knows,nthF,Is,List.setIfInBounds_toArray,List.set_cons_zero,List.set_cons_succ,Nat.reduceAdd]at hk ⊢
   try simp only[hk]
   have hb:=(HS.out.keep hs).xbox
   have y0:=hb.cell 0
   have yl:=hb.lt
   clear hb
   go_wp2
   exact⟨_,rfl,rfl,Since.refl _⟩
  ·intro vs w8 hs hk _
   clear z0 z1 z2 z4 zf zl
   simp only[List.take,putAll,Act.put,Knows,nthF,Is,List.setIfInBounds_toArray,List.set_cons_zero,List.set_cons_succ,Nat.reduceAdd]at hk ⊢
   try simp only[hk]
   go_wp2
   exact⟨_,rfl,rfl,Since.refl _⟩
  ·intro vs w8 hs hk _
   clear z0 z1 z2 z4 zf zl
   simp only[List.take,putAll,Act.put,Knows,nthF,Is,List.setIfInBounds_toArray,List.set_cons_zero,List.set_cons_succ,Nat.reduceAdd]at hk ⊢
   try simp only[hk]
   go_wp2
   exact⟨_,rfl,rfl,Since.refl _⟩
  ·intro vs w8 hs hk _
   clear z0 z1 z2 z4 zf zl
   simp only[List.take,putAll,Act.put,Knows,nthF,Is,List.setIfInBounds_toArray,List.set_cons_zero,List.set_cons_succ,Nat.reduceAdd]at hk ⊢
   try simp only[hk]
   go_wp2
   exact⟨_,rfl,rfl,Since.refl _⟩
  ·intro vs w8 hs hk _
   clear z0 z1 z2 z4 zf zl
   simp only[List.take,putAll,Act.put,Knows,nthF,Is,List.setIfInBounds_toArray,List.set_cons_zero,List.set_cons_succ,Nat.reduceAdd]at hk ⊢
   try simp only[hk]
   go_wp2
   exact⟨_,rfl,rfl,Since.refl _⟩
  ·intro vs w8 hs hk _
   clear z0 z1 z2 z4 zf zl
   simp only[List.take,putAll,Act.put,Knows,nthF,Is,List.setIfInBounds_toArray,List.set_cons_zero,List.set_cons_succ,Nat.reduceAdd]at hk ⊢
   try simp only[hk]
   have c1:w8.cell? ⟨pb,j*2+1,none⟩=some (.slice ya ny yc):=own_at fpcells_len (HS.out.keep hs).phis HY.out 1 (by decide)
   have yl:=(World.ownsRow.lt (HS.out.keep hs).phis pb rfl).2
   go_wp2
   exact⟨_,rfl,rfl,Since.refl _⟩
  ·intro vs w8 hs hk _
   clear z0 z1 z2 z4 zf zl
   simp only[List.take,putAll,Act.put,Knows,nthF,Is,List.setIfInBounds_toArray,List.set_cons_zero,List.set_cons_succ,Nat.reduceAdd]at hk ⊢
   try simp only[hk]
   obtain⟨ga,hga,hgo⟩:=(show EmptyP w1 (vs 7) w8 from hk.1)
   simp only[hga]
   have HGO:=Lib.hid hgo
   have HSN:=Lib.hid (HS.out.since.trans hs)
   have HSZ:=Lib.hid hs.size
   clear hk hga hgo hs
   go_wp2_with (at_builtin;refine wpList_append_cap0 w1.heap.size prcells 2 prcells_len (by decide) rfl _ _ 58 rfl 71 (.agg #[.int .i64 0,.int .i64 0]) 16 Tryz.underlying58 (by kernel_rfl) rfl (by decide) ga (.slice ya ny yc) yi (fun x _=>pr_one x) rfl rfl HGO.out (HYI.out.keep HSN.out) (by rw[HNY.out];omega) HSZ.out ?_;intro v2 w2 ho2 hs2;have HO2:=Lib.hid (show CopyP w1 yi v2 w2 from ho2);have HSO:=Lib.hid hs2;clear ho2 hs2)
   exact⟨_,rfl,HO2.out,HSO.out⟩
  ·intro vs w8 hs hk _
   clear z0 z1 z2 z4 zf zl
   simp only[List.take,putAll,Act.put,Knows,List.setIfInBounds_toArray,List.set_cons_zero,List.set_cons_succ,Nat.reduceAdd]at hk ⊢
   try simp only[hk]
   go_wp2
   exact⟨_,rfl,rfl,Since.refl _⟩
  ·intro vs w8 hs hk _
   clear z0 z1 z2 z4 zf zl
   simp only[List.take,putAll,Act.put,Knows,nthF,Is,List.setIfInBounds_toArray,List.set_cons_zero,List.set_cons_succ,Nat.reduceAdd]at hk ⊢
   try simp only[hk]
   go_wp2
   exact⟨_,rfl,rfl,Since.refl _⟩
  ·intro vs w8 hs hk _
   clear z0 z1 z2 z4 zf zl
   simp only[List.take,putAll,Act.put,Knows,List.setIfInBounds_toArray,List.set_cons_zero,List.set_cons_succ,Nat.reduceAdd]at hk ⊢
   try simp only[hk]
   go_wp2
   exact⟨_,rfl,rfl,Since.refl _⟩
  ·intro vs w8 hs hk _
   clear z0 z1 z2 z4 zf zl
   simp only[List.take,putAll,Act.put,Knows,nthF,Is,List.setIfInBounds_toArray,List.set_cons_zero,List.set_cons_succ,Nat.reduceAdd]at hk ⊢
   try simp only[hk]
   go_wp2
   exact⟨_,rfl,rfl,Since.refl _⟩
  ·intro vs w8 hs hk _
   clear z0 z1 z2 z4 zf zl
   simp only[List.take,putAll,Act.put,Knows,nthF,Is,List.setIfInBounds_toArray,List.set_cons_zero,List.set_cons_succ,Nat.reduceAdd]at hk ⊢
   try simp only[hk]
   go_wp2
   exact⟨_,rfl,⟨_,rfl,HeapIs.new _ _ _⟩,(Since.refl _).alloc _⟩
  ·clear z0 z1 z2 z4 zf zl
   obtain⟨_,_,hG⟩:=hG
   simp only[List.take,putAll,Act.put,Knows,List.setIfInBounds_toArray,List.set_cons_zero,List.set_cons_succ,Nat.reduceAdd]at hk ⊢
   try simp only[hk]
   clear hG
   go_wp2
   exact⟨_,rfl,rfl,rfl⟩
  ·clear z0 z1 z2 z4 zf zl
   obtain⟨_,_,hG⟩:=hG
   simp only[List.take,putAll,Act.put,Knows,nthF,Is,List.setIfInBounds_toArray,List.set_cons_zero,List.set_cons_succ,Nat.reduceAdd]at hk ⊢
   try simp only[hk]
   have hb:=hG.xbox
   have y0:=hb.cell 0
   have yl:=hb.lt
   clear hb hG
   go_wp2
   exact⟨_,rfl,rfl,rfl⟩
  ·clear z0 z1 z2 z4 zf zl
   obtain⟨_,_,hG⟩:=hG
   simp only[List.take,putAll,Act.put,Knows,List.setIfInBounds_toArray,List.set_cons_zero,List.set_cons_succ,Nat.reduceAdd]at hk ⊢
   try simp only[hk]
   clear hG
   go_wp2
   exact⟨_,rfl,rfl,rfl⟩
  ·clear z0 z1 z2 z4 zf zl
   obtain⟨_,_,hG⟩:=hG
   simp only[List.take,putAll,Act.put,Knows,List.setIfInBounds_toArray,List.set_cons_zero,List.set_cons_succ,Nat.reduceAdd]at hk ⊢
   try simp only[hk]
   clear hG
   go_wp2
   exact⟨_,rfl,rfl,rfl⟩
  ·clear z0 z1 z2 z4 zf zl
   obtain⟨_,_,hG⟩:=hG
   simp only[List.take,putAll,Act.put,Knows,nthF,Is,List.setIfInBounds_toArray,List.set_cons_zero,List.set_cons_succ,Nat.reduceAdd]at hk ⊢
   try simp only[hk]
   have hb:=hG.xbox
   have y0:=hb.cell 0
   have yl:=hb.lt
   clear hb hG
   go_wp2
   exact⟨_,rfl,rfl,rfl⟩
  ·clear z0 z1 z2 z4 zf zl
   obtain⟨_,_,hG⟩:=hG
   simp only[List.take,putAll,Act.put,Knows,nthF,Is,List.setIfInBounds_toArray,List.set_cons_zero,List.set_cons_succ,Nat.reduceAdd]at hk ⊢
   try simp only[hk]
   clear hG
   go_wp2
   exact⟨_,rfl,rfl,rfl⟩
  ·clear z0 z1 z2 z4 zf zl
   obtain⟨_,_,hG⟩:=hG
   simp only[List.take,putAll,Act.put,Knows,nthF,Is,List.setIfInBounds_toArray,List.set_cons_zero,List.set_cons_succ,Nat.reduceAdd]at hk ⊢
   try simp only[hk]
   clear hG
   go_wp2
   exact⟨_,rfl,rfl,rfl⟩
  ·intro vs w8 hs hk
   clear z0 z1 z2 z4 zf zl
   have hv18:CopyP w1 yi (vs 18) w8:=hk.2.2.2.2.2.2.2.2.2.2.2.2.2.2.2.2.2.2.1 rfl
   obtain⟨gn,hgn,hgb⟩:NewRow #[.int .i64 (r:Int),.int .i64 (n:Int)] 71 1 (vs 23) w8:=hk.2.2.2.2.2.2.2.2.2.2.2.2.2.2.2.2.2.2.2.2.2.2.2.1 rfl
   obtain⟨ca,cc,hva⟩:=OwnRow.shape hv18
   rw[HNY.out]at hva
   simp only[List.take,List.drop,putAll,Act.put,List.setIfInBounds_toArray,List.set_cons_zero,List.set_cons_succ,Nat.reduceAdd]
   simp only[hgn,hva]
   rw[hva]at hv18
   have HC:=Lib.hid hv18
   have HGB:=Lib.hid hgb
   have HS8:=Lib.hid (HS.out.keep hs)
   have HSZ:=Lib.hid hs.size
   clear hk hs hgn hgb hv18 hva
   refine wpList_append_one2 (base:=w1.heap.size) prcells 2 prcells_len (by decide) rfl _ _ 58 rfl 71 (.agg #[.int .i64 0,.int .i64 0]) 16 Tryz.underlying58 (by kernel_rfl) rfl (.slice ca ny cc) yi ((r:Int),(n:Int)) gn 1 71 rfl rfl HC.out HGB.out (pr_one _) (by rw[HNY.out];unfold maxLen;omega) (by rw[HNY.out];omega) HSZ.out ?_
   intro v9 w9 ho9 ht9 _
   exact⟨_,rfl,ho9,HS8.out.turnRow HC.out HS.out.since.size (by decide) ht9⟩
  ·intro vs w9 hG hk
   clear z0 z1 z2 z4 zf zl
   obtain⟨ho,hst⟩:=hG
   have hv1:vs 1=.slice (some ⟨pb,0,none⟩) np pc:=hk.2.1 rfl
   have hv6:vs 6=.int .i64 (j:Int):=hk.2.2.2.2.2.2.1 rfl
   obtain⟨ga,gc,hv24⟩:=OwnRow.shape ho
   rw[List.length_append,HNY.out,List.length_singleton]at hv24
   rw[hv24]at ho
   simp only[List.take,List.drop,putAll,Act.put,List.setIfInBounds_toArray,List.set_cons_zero,List.set_cons_succ,Nat.reduceAdd]
   simp only[hv1,hv6,hv24]
   have HO3:=Lib.hid ho
   have HS3:=Lib.hid hst
   obtain⟨_,_,e3,_,_,_,pl3,_,pfz3⟩:=own_where hst.phis (by rw[HNP.out];exact h0)
   rw[HNP.out]at e3
   cases e3
   have s3:w9.cell? ⟨pb,j*2+1,none⟩=_:=own_at fpcells_len hst.phis HY.out 1 (by decide)
   clear hk ho hst hv1 hv6 hv24
   go_wp2_with fail
   have ho:=own_setOne (x':=(⟨yd,yi++[((r:Int),(n:Int))],.slice ga (ny+1) gc⟩:FPhi)) (t:=1) (u:=.slice ga (ny+1) gc) fpcells_len HS3.out.phis HY.out (by decide) rfl
   have t4:=(Turn.refl (fun q=>some pb=some q) w9).setCell (p:=⟨pb,j*2+1,none⟩) rfl (.slice ga (ny+1) gc)
   have h2:=HS3.out.phTurn ho t4
   have hrow:=own_turn HO3.out t4 fun q hq e=>own_ne HO3.out HS3.out.phis (by decide) q hq e
   have hm:=List.mem_of_getElem? HY.out
   exact HQ.out _ _ p ⟨xph.set j ⟨yd,yi++[((r:Int),(n:Int))],.slice ga (ny+1) gc⟩,.slice (some ⟨pb,0,none⟩) np pc,xin,.slice ia ni ic,⟨kd,ar,av,tg,tv,im⟩⟩ (frTn_mk rfl rfl (sl_cons rfl (sl_cons rfl (sl_cons rfl (sl_cons rfl (sl_cons rfl (sl_nil _))))))) ⟨h2,HP.out,
    { HO.out.same with
     r:=⟨fun q hq=>by
      rcases mem_set hq with rfl|hq
      ·exact⟨(HO.out.r.phis _ hm).dst,fun u hu=>by
        rcases List.mem_append.1 hu with hu|hu
        ·exact (HO.out.r.phis _ hm).ins u hu
        ·rw[List.mem_singleton.1 hu];exact⟨⟨by show (_:Int)≤(r:Int);omega,by show (r:Int)≤_;omega⟩,⟨by show (_:Int)≤(n:Int);omega,by show (n:Int)≤_;omega⟩⟩⟩
      ·exact HO.out.r.phis q hq,HO.out.r.ins,HO.out.r.term⟩
     phis:=⟨by show (xph.set j _).length≤_;rw[List.length_set,HNP.out];omega,fun q hq=>by
      rcases mem_set hq with rfl|hq
      ·show (yi++[_]).length≤_;rw[List.length_append,HNY.out,List.length_singleton];omega
      ·exact HO.out.same.phis.2 q hq⟩ },
    h2.done (fun q hq=>by
     rcases mem_set hq with rfl|hq
     ·exact fun w' t=>(show PairsIn w' _ _ from row_of_own (p:=fun _ _=>True) prcells_len (h2.lateRow hrow (by decide) t) fun _ _=>trivial)
     ·exact h2.oldPh HX.out.1 q hq) (h2.oldIn HX.out.2.1) HX.out.2.2.1 (h2.nums HX.out.2.2.2)⟩
 ·obtain rfl:np=0:=by omega
  go_wp2_with fail
  exact HQ.out _ _ p ⟨xph,.slice pa 0 pc,xin,.slice ia ni ic,⟨kd,ar,av,tg,tv,im⟩⟩ (frTn_mk rfl rfl (sl_cons rfl (sl_cons rfl (sl_cons rfl (sl_cons rfl (sl_cons rfl (sl_nil _))))))) ⟨HS.out,HP.out,{ HO.out.same with r:=⟨HO.out.r.phis,HO.out.r.ins,HO.out.r.term⟩ },HS.out.done (HS.out.oldPh HX.out.1) (HS.out.oldIn HX.out.2.1) HX.out.2.2.1 (HS.out.nums HX.out.2.2.2)⟩
theorem tn_way (w0:World) (N:Nat) (X:FBlk) (k:Int) (hk:0≤k∧k<12):TnWay w0 N X k:=by
 obtain rfl|rfl|rfl|rfl|rfl|rfl|rfl|rfl|rfl|rfl|rfl|rfl:k=0∨k=1∨k=2∨k=3∨k=4∨k=5∨k=6∨k=7∨k=8∨k=9∨k=10∨k=11:=by omega
 ·exact tn_way0 w0 N X
 ·exact tn_way1 w0 N X
 ·exact tn_way2 w0 N X
 ·exact tn_way3 w0 N X
 ·exact tn_way4 w0 N X
 ·exact tn_way5 w0 N X
 ·exact tn_way6 w0 N X
 ·exact tn_way7 w0 N X
 ·exact tn_way8 w0 N X
 ·exact tn_way9 w0 N X
 ·exact tn_way10 w0 N X
 ·exact tn_way11 w0 N X
def Tn3Q (N:Nat) (w:World) (e:Ending) (w':World):Prop:=∃ g,e=.returned (fv g)∧FnIn w' g∧TnF (N+1) g∧Since w w'
set_option maxHeartbeats 8000000 in
set_option maxRecDepth 1000000 in
theorem turned3_any (N:Nat) (hN:N≤100) (f:FnV) (q0 q1 q2:Int) (w:World) (hf:FnIn w f) (hF:TnF N f):Calls Tryz.prog 21 #[fv f,.agg #[.int .i64 q0,.int .i64 q1,.int .i64 q2]] w (Tn3Q N w):=by
 obtain⟨p,bl,bv⟩:=f
 obtain⟨nb,hnb⟩:∃ n,bl.length=n:=⟨_,rfl⟩
 have hnb9:=hF.blocks
 replace hnb9:1≤nb∧nb≤9:=by rw[←hnb];exact hnb9
 obtain⟨sb,so,sc,rfl,hsb,hsc⟩:∃ sb so sc,bv=.slice (some ⟨sb,so,none⟩) nb sc∧sb<w.heap.size∧∀ (j t:Nat) (x:FBlk),bl[j]? = some x→t<6→w.cell? ⟨sb,so+j*6+t,none⟩=(fbcells x)[t]?:=by
  rcases hf with ⟨_,_,e⟩|⟨b,off,cap,e,_,_,hb,hc⟩
  ·replace e:bl=[]:=e
   rw[e]at hnb;simp at hnb;omega
  ·exact⟨b,off,cap,by rw[←hnb];exact e,hb,fun j t x hj ht=>(hc j x hj).1 t ht⟩
 have HF:=Lib.hid hf
 have HT:=Lib.hid hF
 have HSC:=Lib.hid hsc
 have HSB:=Lib.hid hsb
 have HNB:=Lib.hid hnb
 clear hf hF hsc hsb hnb
 unfold fv
 dsimp only
 go_enter Tryz.func21,Tryz.ntmps21
 go_upto_region 1 with fail
 obtain⟨w1,hw1⟩:∃ z,((w.alloc (.cells #[.int .i64 p,.slice (some ⟨sb,so,none⟩) nb sc] 24)).alloc (.cells #[.int .i64 q0,.int .i64 q1,.int .i64 q2] 46)).alloc (.cells #[.int .i64 0,.slice none 0 0] 24)=z:=⟨_,rfl⟩
 obtain⟨fb,hfb⟩:∃ z,w.heap.size=z:=⟨_,rfl⟩
 have hs1:Since w w1:=by rw[←hw1];exact (((Since.refl w).alloc _).alloc _).alloc _
 have HFB:=Lib.hid (show HeapIs w1 fb #[.int .i64 p,.slice (some ⟨sb,so,none⟩) nb sc] 24 from by rw[←hw1,←hfb];exact (HeapIs.new w _ _).keep (((Since.refl _).alloc _).alloc _))
 have HQB:=Lib.hid (show HeapIs w1 (fb+1) #[.int .i64 q0,.int .i64 q1,.int .i64 q2] 46 from by
  rw[←hw1,←hfb]
  have h:=(HeapIs.new (w.alloc (.cells #[.int .i64 p,.slice (some ⟨sb,so,none⟩) nb sc] 24)) #[.int .i64 q0,.int .i64 q1,.int .i64 q2] 46).keep ((Since.refl _).alloc (.cells #[.int .i64 0,.slice none 0 0] 24))
  rwa [World.size_alloc]at h)
 have HRB:=Lib.hid (show HeapIs w1 (fb+1+1) #[.int .i64 0,.slice none 0 0] 24 from by
  rw[←hw1,←hfb]
  have h:=HeapIs.new ((w.alloc (.cells #[.int .i64 p,.slice (some ⟨sb,so,none⟩) nb sc] 24)).alloc (.cells #[.int .i64 q0,.int .i64 q1,.int .i64 q2] 46)) #[.int .i64 0,.slice none 0 0] 24
  rwa [World.size_alloc,World.size_alloc]at h)
 rw[hw1]
 try rw[hfb]
 have HS1:=Lib.hid hs1
 have HFE:=Lib.hid hfb
 clear hw1 hfb hs1
 have z1:=HFB.out.cell 1
 have zl:=HFB.out.lt
 go_upto_region 2 with (at_builtin;refine wpList_append_rowT w1.heap.size fbcells 6 fbcells_len (by decide) rfl _ _ 22 rfl 57 (.agg #[.slice none 0 0,.slice none 0 0,.int .i64 0,.slice none 0 0,.slice none 0 0,.int .i32 0]) 112 Tryz.underlying22 (by kernel_rfl) rfl (by decide) (.slice (some ⟨w1.heap.size,0,none⟩) 0 0) ([]:List FBlk) bl (fun x hx=>fb_one2 (row_all (show RowIn fbcells 6 FBlkIn w _ bl from HF.out) x hx)) sb so nb sc rfl rfl (own_new fbcells 6 57 w1 [] 0 fbcells_len rfl (by decide) #[] rfl) HNB.out (fun j t x hj ht=>((HS1.out.trans ((Since.refl _).alloc _)).cell (p:=⟨sb,so+j*6+t,none⟩) HSB.out).trans (HSC.out j t x hj ht)) (by simp only[List.length_nil];omega) (by simp only[World.alloc,Array.size_push];omega) ?_;intro v2 w2 ho2 ht2 _;rw[List.nil_append]at ho2;obtain⟨bb,bc,hv2,hbc,_,hbb,_⟩:=own_where ho2 (by rw[HNB.out];omega);rw[HNB.out]at hv2 hbc;subst hv2;have HO2:=Lib.hid ho2;have HS2:=Lib.hid (show Since w1 w2 from ht2.toSince ((Since.refl w1).alloc _) (fun q hq e=>by have:=Option.some.inj e;dsimp only at this;omega));clear ho2 ht2 z1 zl)
 have HF2:=HFB.out.keep HS2.out
 have s1:=HF2.cell 1
 have sf:=HF2.frozen
 have sl:=HF2.lt
 go_upto_region 3 with fail
 obtain⟨w3,hw3⟩:∃ z,w2.setCell ⟨fb,1,none⟩ (.slice (some ⟨bb,0,none⟩) nb bc)=z:=⟨_,rfl⟩
 have t3:Turn (fun q=>q=fb) w2 w3:=by rw[←hw3];exact (Turn.refl (fun q=>q=fb) w2).setCell (p:=⟨fb,1,none⟩) rfl _
 have HFB3:=Lib.hid (show HeapIs w3 fb #[.int .i64 p,.slice (some ⟨bb,0,none⟩) nb bc] 24 from by rw[←hw3];exact HF2.set 1 _)
 have HQB3:=Lib.hid ((HQB.out.keep HS2.out).turn t3 (by omega))
 have HRB3:=Lib.hid ((HRB.out.keep HS2.out).turn t3 (by omega))
 have HO3:=Lib.hid (own_turn HO2.out t3 fun q hq e=>own_not HO2.out HF2 (by decide) (e ▸ hq))
 have HS3:=Lib.hid (show Since w w3 from t3.toSince (HS1.out.trans HS2.out) fun q hq e=>by have:=HFE.out;omega)
 rw[hw3]
 clear HF2 s1 sf sl hw3 t3 HO2 HS2 HFB HQB HRB
 have hne:((nb:Int)==0)=false:=beq_eq_false_iff_ne.2 (by omega)
 have ql:=HQB3.out.lt
 go_upto_region 6 with fail
 obtain⟨mb,hmb⟩:∃ z,w3.heap.size=z:=⟨_,rfl⟩
 obtain⟨w4,hw4⟩:∃ z,w3.alloc (.cells #[.slice (some ⟨fb+1,0,none⟩) 3 3,.int .i64 0,.int .i64 0,.slice none 0 0,.int .i64 0,.slice none 0 0] 101)=z:=⟨_,rfl⟩
 have hm4:MkAt w4 mb (.slice (some ⟨fb+1,0,none⟩) 3 3) 0 [.int .i64 0,.slice none 0 0,.int .i64 0,.slice none 0 0]:=by rw[←hw4,←hmb];exact HeapIs.new _ _ _
 have hs4:Since w3 w4:=by rw[←hw4];exact (Since.refl _).alloc _
 have hfl:=HFB3.out.lt
 have hrl:=HRB3.out.lt
 have hbl:=(World.ownsRow.lt HO3.out bb rfl).2
 rw[hmb]at hfl hrl hbl ql
 have HLT:=Lib.hid (And.intro hfl (And.intro hrl (And.intro hbl ql)))
 have HQI:=Lib.hid (fun (w':World) (h:HeapIs w' (fb+1) #[.int .i64 q0,.int .i64 q1,.int .i64 q2] 46)=>(show Ints w' (.slice (some ⟨fb+1,0,none⟩) 3 3) [q0,q1,q2] from nums_new (k:=.i64) (b:=fb+1) [q0,q1,q2] 46 3 (by simp) (by decide) (cs:=[.int .i64 q0,.int .i64 q1,.int .i64 q2]) h (fun j n hj=>by
  match j,hj with
  | 0,hj=>simp at hj;subst hj;rfl
  | 1,hj=>simp at hj;subst hj;rfl
  | 2,hj=>simp at hj;subst hj;rfl)))
 have HQB4:=Lib.hid (HQB3.out.keep hs4)
 have HM4:=Lib.hid hm4
 have HS4:=Lib.hid hs4
 rw[hw4]
 try rw[hmb]
 have HMB:=Lib.hid hmb
 clear hw4 hmb hm4 hs4 hfl hrl hbl ql hne HQB3
 go_wp2_with fail
 refine (take_any _ [q0,q1,q2] w4 mb 0 _ 12 HM4.out (HQI.out w4 HQB4.out) (by decide) (by decide)).mono ?_
 rintro e w5 ⟨rfl,hm5,t5,hz5⟩
 obtain⟨k,hk,hk12⟩:∃ k,takeF [q0,q1,q2] 0 12=k∧0≤k∧k<12:=⟨_,rfl,takeF_bounds _ _ (by decide)⟩
 rw[hk]
 have HM5:=Lib.hid hm5
 have HT5:=Lib.hid t5
 have HK:=Lib.hid hk12
 have HQB5:=Lib.hid (HQB4.out.turn t5 (by have:=HLT.out;omega))
 clear hk hk12 hm5 t5 hz5
 go_wp2_with fail
 refine (take_any _ [q0,q1,q2] w5 mb (0+1) _ nb HM5.out (HQI.out w5 HQB5.out) (by decide) (by omega)).mono ?_
 rintro e w6 ⟨rfl,hm6,t6,hz6⟩
 obtain⟨bi,hbi,hbn⟩:∃ bi:Nat,takeF [q0,q1,q2] (0+1) nb=bi∧bi<nb:=by
  have h:=takeF_bounds [q0,q1,q2] (0+1) (show (0:Int)<nb by omega)
  exact⟨(takeF [q0,q1,q2] (0+1) nb).toNat,by omega,by omega⟩
 rw[hbi]
 have HM6:=Lib.hid hm6
 have HT6:=Lib.hid (HT5.out.trans t6)
 have HQB6:=Lib.hid (HQB5.out.turn t6 (by have:=HLT.out;omega))
 clear hbi hm6 t6 hz6
 go_wp2_with fail
 refine (take_any _ [q0,q1,q2] w6 mb (0+1+1) _ 40 HM6.out (HQI.out w6 HQB6.out) (by decide) (by decide)).mono ?_
 rintro e w7 ⟨rfl,hm7,t7,hz7⟩
 obtain⟨n,hn,hn40⟩:∃ n:Nat,takeF [q0,q1,q2] (0+1+1) 40=n∧n<40:=by
  have h:=takeF_bounds [q0,q1,q2] (0+1+1) (show (0:Int)<40 by decide)
  exact⟨(takeF [q0,q1,q2] (0+1+1) 40).toNat,by omega,by omega⟩
 rw[hn]
 have HT7:=Lib.hid (HT6.out.trans t7)
 have HFB7:=Lib.hid ((HFB3.out.keep HS4.out).turn HT7.out (by have:=HLT.out;omega))
 have HRB7:=Lib.hid ((HRB3.out.keep HS4.out).turn HT7.out (by have:=HLT.out;omega))
 have HO7:=Lib.hid (show OwnRow fbcells 6 57 w1.heap.size w7 (.slice (some ⟨bb,0,none⟩) nb bc) bl from own_turn (own_keep HO3.out HS4.out) HT7.out fun q hq e=>by have:=HLT.out;have:=Option.some.inj hq;dsimp only at this;omega)
 have HS7:=Lib.hid (show Since w w7 from HT7.out.toSince (HS3.out.trans HS4.out) fun q hq e=>by have:=HS3.out.size;have:=HMB.out;omega)
 have HLT7:=Lib.hid (show bb<w7.heap.size from (World.ownsRow.lt HO7.out bb rfl).2)
 clear hn hm7 t7 hz7 HM4 HM5 HM6 HT5 HT6 HT7 HQB4 HQB5 HQB6 HQI HS3 HS4 HFB3 HRB3 HO3 HLT HMB
 obtain⟨X,hX⟩:∃ X,bl[bi]? = some X:=⟨_,List.getElem?_eq_getElem (by rw[HNB.out];exact hbn)⟩
 have hXI:FBlkIn w X:=row_all (show RowIn fbcells 6 FBlkIn w _ bl from HF.out) X (List.mem_of_getElem? hX)
 have hXO:XOk N X:=by
  have hm:=List.mem_of_getElem? hX
  exact⟨HT.out.r.blocks X hm,HT.out.phis X hm,HT.out.args X hm,HT.out.term X hm,HT.out.one hm⟩
 have hcs:=own_at fbcells_len HO7.out hX
 have HXB:=Lib.hid hX
 obtain⟨xph,xphv,xin,xinv,⟨kd,ar,av,tg,tv,im⟩⟩:=X
 obtain⟨xpa,xpc,e1,_⟩:=RowIn.shape hXI.1
 obtain⟨xia,xic,e2,_⟩:=RowIn.shape hXI.2.1
 obtain⟨aa,ac,e3⟩:=nums_lenI (show Ints w av ar from hXI.2.2.1)
 obtain⟨ta,tc,e4⟩:=nums_lenI (show Ints w tv tg from hXI.2.2.2)
 obtain⟨np,hnp⟩:∃ n,xph.length=n:=⟨_,rfl⟩
 obtain⟨ni,hni⟩:∃ n,xin.length=n:=⟨_,rfl⟩
 obtain⟨na,hna⟩:∃ n,ar.length=n:=⟨_,rfl⟩
 obtain⟨nt,hnt⟩:∃ n,tg.length=n:=⟨_,rfl⟩
 replace e1:xphv=.slice xpa np xpc:=by rw[←hnp];exact e1
 replace e2:xinv=.slice xia ni xic:=by rw[←hni];exact e2
 rw[hna]at e3
 rw[hnt]at e4
 subst e1 e2 e3 e4
 have HXI:=Lib.hid hXI
 have HXO:=Lib.hid hXO
 have HNP:=Lib.hid hnp
 have HNI:=Lib.hid hni
 have hni7:ni≤700:=by rw[←hni];exact hXO.len
 have hnp7:np≤103:=by have:=hXO.phis.1;dsimp only at this;omega
 have c0:w7.cell? ⟨bb,bi*6,none⟩=some (.slice xpa np xpc):=hcs 0 (by decide)
 have c1:w7.cell? ⟨bb,bi*6+1,none⟩=some (.slice xia ni xic):=hcs 1 (by decide)
 have c2:w7.cell? ⟨bb,bi*6+2,none⟩=some (.int .i64 kd):=hcs 2 (by decide)
 have c3:w7.cell? ⟨bb,bi*6+3,none⟩=some (.slice aa na ac):=hcs 3 (by decide)
 have c4:w7.cell? ⟨bb,bi*6+4,none⟩=some (.slice ta nt tc):=hcs 4 (by decide)
 have c5:w7.cell? ⟨bb,bi*6+5,none⟩=some (.int .i32 im):=hcs 5 (by decide)
 have bl7:=HLT7.out
 clear hX hXI hXO hcs hnp hni hna hnt
 go_upto_region 10 with fail
 obtain⟨qx,hqx⟩:∃ z,w7.heap.size=z:=⟨_,rfl⟩
 obtain⟨w8,hw8⟩:∃ z,w7.alloc (.cells #[.slice xpa np xpc,.slice xia ni xic,.int .i64 kd,.slice aa na ac,.slice ta nt tc,.int .i32 im] 57)=z:=⟨_,rfl⟩
 have HXBw8:=Lib.hid (show HeapIs w8 qx #[.slice xpa np xpc,.slice xia ni xic,.int .i64 kd,.slice aa na ac,.slice ta nt tc,.int .i32 im] 57 from by rw[←hw8,←hqx];exact HeapIs.new _ _ _)
 have hs8:Since w7 w8:=by rw[←hw8];exact (Since.refl _).alloc _
 have HSw8:=Lib.hid (HS7.out.trans hs8)
 have HS78:=Lib.hid hs8
 have HQX:=Lib.hid hqx
 rw[hw8]
 try rw[hqx]
 clear hw8 hqx hs8 c0 c1 c2 c3 c4 c5 bl7
 have b9:=HXBw8.out
 have s1:=b9.cell 1
 have sl:=b9.lt
 clear b9
 go_upto_region 11 with (at_builtin;refine wpList_append_cap0 w8.heap.size ficells 5 ficells_len (by decide) rfl _ _ 52 rfl 51 (.agg #[.int .i64 0,.int .i64 0,.int .i64 0,.slice none 0 0,.int .i32 0]) 56 Tryz.underlying52 (by kernel_rfl) rfl (by decide) w8.heap.size (.slice xia ni xic) xin (fun x hx=>fi_one (row_all HXI.out.2.1 x hx)) rfl rfl (own_new ficells 5 51 w8 [] 0 ficells_len rfl (by decide) #[] rfl) (RowIn.keep FInsIn.keep HXI.out.2.1 (HSw8.out.trans ((Since.refl _).alloc _))) (by rw[HNI.out];omega) (by simp only[World.alloc,Array.size_push];omega) ?_;intro v9 w9 ho9 hs9;obtain⟨ia,ic,hv9⟩:=OwnRow.shape ho9;rw[HNI.out]at hv9;subst hv9;have HRi:=Lib.hid ho9;have HSAi:=Lib.hid (show Since w8 w9 from ((Since.refl w8).alloc _).trans hs9);clear ho9 hs9 s1 sl;have b9:=HXBw8.out.keep HSAi.out;have s1:=b9.cell 1;have sf:=b9.frozen;have sl:=b9.lt;clear b9)
 obtain⟨wa,hwm⟩:∃ z,w9.setCell ⟨qx,1,none⟩ (.slice ia ni ic)=z:=⟨_,rfl⟩
 have tm:Turn (fun q=>q=qx) w9 wa:=by rw[←hwm];exact (Turn.refl (fun q=>q=qx) w9).setCell (p:=⟨qx,1,none⟩) rfl _
 rw[hwm]
 have HXBwa:=Lib.hid (show HeapIs wa qx #[.slice xpa np xpc,.slice ia ni ic,.int .i64 kd,.slice aa na ac,.slice ta nt tc,.int .i32 im] 57 from by rw[←hwm];exact (HXBw8.out.keep HSAi.out).set 1 _)
 have HSwa:=Lib.hid (show Since w wa from tm.toSince (HSw8.out.trans HSAi.out) fun q hq e=>by have:=HS7.out.size;have:=HQX.out;omega)
 have HT8a:=Lib.hid (show Turn (fun q=>q=qx) w8 wa from (Turn.since HSAi.out).trans tm)
 have HRi2:=Lib.hid (show OwnRow ficells 5 51 w8.heap.size wa (.slice ia ni ic) xin from own_turn HRi.out tm fun q hq e=>own_not HRi.out (HXBw8.out.keep HSAi.out) (by decide) (e ▸ hq))
 clear hwm tm s1 sf sl HRi
 have b9:=HXBwa.out
 have s1:=b9.cell 0
 have sl:=b9.lt
 clear b9
 go_upto_region 12 with (at_builtin;refine wpList_append_cap0 wa.heap.size fpcells 2 fpcells_len (by decide) rfl _ _ 55 rfl 60 (.agg #[.int .i64 0,.slice none 0 0]) 32 Tryz.underlying55 (by kernel_rfl) rfl (by decide) wa.heap.size (.slice xpa np xpc) xph (fun x hx=>fp_one (row_all HXI.out.1 x hx)) rfl rfl (own_new fpcells 2 60 wa [] 0 fpcells_len rfl (by decide) #[] rfl) (RowIn.keep FPhiIn.keep HXI.out.1 (HSwa.out.trans ((Since.refl _).alloc _))) (by rw[HNP.out];omega) (by simp only[World.alloc,Array.size_push];omega) ?_;intro v9 wb ho9 hs9;obtain⟨pa,pc,hv9⟩:=OwnRow.shape ho9;rw[HNP.out]at hv9;subst hv9;have HRp:=Lib.hid ho9;have HSAp:=Lib.hid (show Since wa wb from ((Since.refl wa).alloc _).trans hs9);clear ho9 hs9 s1 sl;have b9:=HXBwa.out.keep HSAp.out;have s1:=b9.cell 0;have sf:=b9.frozen;have sl:=b9.lt;clear b9)
 obtain⟨wc,hwm⟩:∃ z,wb.setCell ⟨qx,0,none⟩ (.slice pa np pc)=z:=⟨_,rfl⟩
 have tm:Turn (fun q=>q=qx) wb wc:=by rw[←hwm];exact (Turn.refl (fun q=>q=qx) wb).setCell (p:=⟨qx,0,none⟩) rfl _
 rw[hwm]
 have HXBwc:=Lib.hid (show HeapIs wc qx #[.slice pa np pc,.slice ia ni ic,.int .i64 kd,.slice aa na ac,.slice ta nt tc,.int .i32 im] 57 from by rw[←hwm];exact (HXBwa.out.keep HSAp.out).set 0 _)
 have HSwc:=Lib.hid (show Since w wc from tm.toSince (HSwa.out.trans HSAp.out) fun q hq e=>by have:=HS7.out.size;have:=HQX.out;omega)
 have t8c:Turn (fun q=>q=qx) w8 wc:=(HT8a.out.trans (Turn.since HSAp.out)).trans tm
 have hrp:OwnRow fpcells 2 60 wa.heap.size wc (.slice pa np pc) xph:=own_turn HRp.out tm fun q hq e=>own_not HRp.out (HXBwa.out.keep HSAp.out) (by decide) (e ▸ hq)
 have hri:OwnRow ficells 5 51 w8.heap.size wc (.slice ia ni ic) xin:=own_turn (own_turn HRi2.out (Turn.since HSAp.out) (S:=fun q=>q=qx) fun q hq e=>own_not HRi2.out HXBwa.out (by decide) (e ▸ hq)) tm fun q hq e=>own_not (own_keep HRi2.out HSAp.out) (HXBwa.out.keep HSAp.out) (by decide) (e ▸ hq)
 have hlt:=(HFB7.out.keep HS78.out).lt
 have hF7:=HFB7.out.lt
 have hR7:=HRB7.out.lt
 have HST:=Lib.hid (show TnS w fb (fb+1+1) bb nb bc qx bl p (.slice pa np pc) xph (.slice ia ni ic) xin kd (.slice aa na ac) (.slice ta nt tc) im wc from
  ⟨HSwc.out,⟨by have:=HFE.out;omega,by have:=HFE.out;omega,by have:=HQX.out;have:=HS7.out.size;omega⟩,⟨by omega,by have:=HQX.out;have:=HLT7.out;omega⟩,(HFB7.out.keep HS78.out).turn t8c (by have:=HQX.out;omega),(HRB7.out.keep HS78.out).turn t8c (by have:=HQX.out;omega),HXBwc.out,
   own_base (own_turn (own_keep HO7.out HS78.out) t8c fun q hq e=>by have:=Option.some.inj hq;have:=HQX.out;have:=HLT7.out;dsimp only at *;omega) HS1.out.size,own_base hrp HSwa.out.size,own_base hri HSw8.out.size⟩)
 clear hwm tm s1 sf sl t8c hrp hri hlt hF7 hR7
 have b9:=HST.out.xbox
 have s1:=b9.cell 1
 have sl:=b9.lt
 clear b9
 by_cases h0:0<ni
 ·obtain⟨i,hi,hit⟩:∃ i:Nat,(n:Int).tmod ni=i∧i<ni:=⟨n % ni,rem_nat n ni,Nat.mod_lt _ h0⟩
  go_upto_block 0 with fail
  refine tn_way w N ⟨xph,.slice xpa np xpc,xin,.slice xia ni xic,⟨kd,ar,.slice aa na ac,tg,.slice ta nt tc,im⟩⟩ k HK.out fb (fb+1+1) bb nb bc qx bl p (.slice pa np pc) (.slice ia ni ic) bi n i _ wc _ (frTn_mk rfl rfl (sl_cons rfl (sl_cons rfl (sl_cons rfl (sl_cons rfl (sl_cons rfl (sl_cons rfl (sl_cons rfl (sl_cons rfl (sl_nil _)))))))))) HXI.out HXO.out hN HT.out.r.params hn40 (fun h=>by rw[HNI.out];exact hit) HST.out ?_
  clear HST s1 sl
  intro a1 w2 p' y hf ho
  obtain⟨u,ha0,hu⟩:=frameTn_ex hf
  obtain⟨g1,g2,s2,s4,s5,s8,s10,g3⟩:=hf
  have e2:=hu 2 _ s2
  have e4:=hu 4 _ s4
  have e5:=hu 5 _ s5
  have e8:=hu 8 _ s8
  have e10:=hu 10 _ s10
  rw[e2,e4,e5,e8,e10]at ha0
  subst ha0
  clear hu g1 g2 g3 e2 s2 e4 s4 e5 s5 e8 s8 e10 s10
  have HOUT:=Lib.hid ho
  have b9:=ho.st.xbox
  have y0:=b9.cell 0
  have y1:=b9.cell 1
  have y2:=b9.cell 2
  have y3:=b9.cell 3
  have y4:=b9.cell 4
  have y5:=b9.cell 5
  have yl:=b9.lt
  clear ho b9
  go_upto_region 56 with (refine wpList_store_mid rfl 57 _ _ rfl bb (bi*6) #[y.phv,y.inv,.int .i64 y.term.kind,y.term.argsv,y.term.tov,.int .i32 y.term.imm] rfl rfl (own_thereR fbcells_len HOUT.out.st.row hbn) (by kernel_rfl) (all_oneCell_toArray (fb_one2 (HOUT.out.blk w2 (Turn.refl _ _)))) ?_)
  obtain⟨wz,hwz⟩:∃ z,w2.setCells bb (bi*6) [y.phv,y.inv,.int .i64 y.term.kind,y.term.argsv,y.term.tov,.int .i32 y.term.imm]=z:=⟨_,rfl⟩
  have HRZ:=Lib.hid (show OwnRow fbcells 6 57 w.heap.size wz (.slice (some ⟨bb,0,none⟩) nb bc) (bl.set bi y) from by rw[←hwz];exact own_setRow fbcells_len HOUT.out.st.row HXB.out y)
  have tz:Turn (fun q=>q=bb) w2 wz:=by rw[←hwz];exact setCells_turn (S:=fun q=>q=bb) (g:=bb) rfl _ _ _
  have HTZ:=Lib.hid (show Turn (TnT bb (fb+1+1)) w2 wz from tz.mono fun _ _ h=>.inl h)
  have HFZ:=Lib.hid (HOUT.out.st.fbox.turn tz (fun e=>own_not HOUT.out.st.row HOUT.out.st.fbox (by decide) (by rw[e];rfl)))
  have HBZ:=Lib.hid (HOUT.out.st.rbox.turn tz (fun e=>own_not HOUT.out.st.row HOUT.out.st.rbox (by decide) (by rw[e];rfl)))
  try simp only[hwz]
  clear hwz tz y0 y1 y2 y3 y4 y5 yl
  have f0:=HFZ.out.cell 0
  have f1:=HFZ.out.cell 1
  have fl:=HFZ.out.lt
  have r0:=HBZ.out.cell 0
  have r1:=HBZ.out.cell 1
  have rl:=HBZ.out.lt
  have rf:=HBZ.out.frozen
  go_wp2_with fail
  have hres:=(HBZ.out.set 0 (.int .i64 p')).set 1 (.slice (some ⟨bb,0,none⟩) nb bc)
  try simp only[Exit.inBlock,Exit.then]
  refine bodyPost_ret (results_cell_row rfl _ _ (fb+1+1) 24 #[.int .i64 p',.slice (some ⟨bb,0,none⟩) nb bc] (0,0) _ rfl hres Tryz.underlying24 rfl (by kernel_rfl)) rfl ?_
  have t1:Turn (fun q=>q=fb+1+1) wz ((wz.setCell ⟨fb+1+1,0,none⟩ (.int .i64 p')).setCell ⟨fb+1+1,1,none⟩ (.slice (some ⟨bb,0,none⟩) nb bc)):=((Turn.refl (fun q=>q=fb+1+1) wz).setCell (p:=⟨fb+1+1,0,none⟩) rfl _).setCell (p:=⟨fb+1+1,1,none⟩) rfl _
  have t2:=HTZ.out.trans (t1.mono (S':=TnT bb (fb+1+1)) fun _ _ h=>.inr h)
  have hs:=HOUT.out.st.late t2
  exact⟨⟨p',bl.set bi y,.slice (some ⟨bb,0,none⟩) nb bc⟩,rfl,row_of_own fbcells_len (own_turn HRZ.out t1 fun q hq e=>own_not HRZ.out HBZ.out (by decide) (e ▸ hq)) (fun b hb=>by
   rcases mem_set hb with rfl|hb
   ·exact HOUT.out.blk _ t2
   ·exact FBlkIn.keep _ _ _ (row_all (show RowIn fbcells 6 FBlkIn w _ bl from HF.out) b hb) hs),HT.out.set HXB.out HOUT.out.turn p' HOUT.out.par _,hs⟩
 ·obtain⟨i,hit⟩:∃ i:Nat,i=0:=⟨_,rfl⟩
  obtain rfl:ni=0:=by omega
  go_upto_block 0 with fail
  refine tn_way w N ⟨xph,.slice xpa np xpc,xin,.slice xia 0 xic,⟨kd,ar,.slice aa na ac,tg,.slice ta nt tc,im⟩⟩ k HK.out fb (fb+1+1) bb nb bc qx bl p (.slice pa np pc) (.slice ia 0 ic) bi n 0 _ wc _ (frTn_mk rfl rfl (sl_cons rfl (sl_cons rfl (sl_cons rfl (sl_cons rfl (sl_cons rfl (sl_cons rfl (sl_cons rfl (sl_cons rfl (sl_nil _)))))))))) HXI.out HXO.out hN HT.out.r.params hn40 (fun h=>by exact h) HST.out ?_
  clear HST s1 sl
  intro a1 w2 p' y hf ho
  obtain⟨u,ha0,hu⟩:=frameTn_ex hf
  obtain⟨g1,g2,s2,s4,s5,s8,s10,g3⟩:=hf
  have e2:=hu 2 _ s2
  have e4:=hu 4 _ s4
  have e5:=hu 5 _ s5
  have e8:=hu 8 _ s8
  have e10:=hu 10 _ s10
  rw[e2,e4,e5,e8,e10]at ha0
  subst ha0
  clear hu g1 g2 g3 e2 s2 e4 s4 e5 s5 e8 s8 e10 s10
  have HOUT:=Lib.hid ho
  have b9:=ho.st.xbox
  have y0:=b9.cell 0
  have y1:=b9.cell 1
  have y2:=b9.cell 2
  have y3:=b9.cell 3
  have y4:=b9.cell 4
  have y5:=b9.cell 5
  have yl:=b9.lt
  clear ho b9
  go_upto_region 56 with (refine wpList_store_mid rfl 57 _ _ rfl bb (bi*6) #[y.phv,y.inv,.int .i64 y.term.kind,y.term.argsv,y.term.tov,.int .i32 y.term.imm] rfl rfl (own_thereR fbcells_len HOUT.out.st.row hbn) (by kernel_rfl) (all_oneCell_toArray (fb_one2 (HOUT.out.blk w2 (Turn.refl _ _)))) ?_)
  obtain⟨wz,hwz⟩:∃ z,w2.setCells bb (bi*6) [y.phv,y.inv,.int .i64 y.term.kind,y.term.argsv,y.term.tov,.int .i32 y.term.imm]=z:=⟨_,rfl⟩
  have HRZ:=Lib.hid (show OwnRow fbcells 6 57 w.heap.size wz (.slice (some ⟨bb,0,none⟩) nb bc) (bl.set bi y) from by rw[←hwz];exact own_setRow fbcells_len HOUT.out.st.row HXB.out y)
  have tz:Turn (fun q=>q=bb) w2 wz:=by rw[←hwz];exact setCells_turn (S:=fun q=>q=bb) (g:=bb) rfl _ _ _
  have HTZ:=Lib.hid (show Turn (TnT bb (fb+1+1)) w2 wz from tz.mono fun _ _ h=>.inl h)
  have HFZ:=Lib.hid (HOUT.out.st.fbox.turn tz (fun e=>own_not HOUT.out.st.row HOUT.out.st.fbox (by decide) (by rw[e];rfl)))
  have HBZ:=Lib.hid (HOUT.out.st.rbox.turn tz (fun e=>own_not HOUT.out.st.row HOUT.out.st.rbox (by decide) (by rw[e];rfl)))
  try simp only[hwz]
  clear hwz tz y0 y1 y2 y3 y4 y5 yl
  have f0:=HFZ.out.cell 0
  have f1:=HFZ.out.cell 1
  have fl:=HFZ.out.lt
  have r0:=HBZ.out.cell 0
  have r1:=HBZ.out.cell 1
  have rl:=HBZ.out.lt
  have rf:=HBZ.out.frozen
  go_wp2_with fail
  have hres:=(HBZ.out.set 0 (.int .i64 p')).set 1 (.slice (some ⟨bb,0,none⟩) nb bc)
  try simp only[Exit.inBlock,Exit.then]
  refine bodyPost_ret (results_cell_row rfl _ _ (fb+1+1) 24 #[.int .i64 p',.slice (some ⟨bb,0,none⟩) nb bc] (0,0) _ rfl hres Tryz.underlying24 rfl (by kernel_rfl)) rfl ?_
  have t1:Turn (fun q=>q=fb+1+1) wz ((wz.setCell ⟨fb+1+1,0,none⟩ (.int .i64 p')).setCell ⟨fb+1+1,1,none⟩ (.slice (some ⟨bb,0,none⟩) nb bc)):=((Turn.refl (fun q=>q=fb+1+1) wz).setCell (p:=⟨fb+1+1,0,none⟩) rfl _).setCell (p:=⟨fb+1+1,1,none⟩) rfl _
  have t2:=HTZ.out.trans (t1.mono (S':=TnT bb (fb+1+1)) fun _ _ h=>.inr h)
  have hs:=HOUT.out.st.late t2
  exact⟨⟨p',bl.set bi y,.slice (some ⟨bb,0,none⟩) nb bc⟩,rfl,row_of_own fbcells_len (own_turn HRZ.out t1 fun q hq e=>own_not HRZ.out HBZ.out (by decide) (e ▸ hq)) (fun b hb=>by
   rcases mem_set hb with rfl|hb
   ·exact HOUT.out.blk _ t2
   ·exact FBlkIn.keep _ _ _ (row_all (show RowIn fbcells 6 FBlkIn w _ bl from HF.out) b hb) hs),HT.out.set HXB.out HOUT.out.turn p' HOUT.out.par _,hs⟩
end Go.Proofs.YtmhojfpidedjeaaGreatDoor
