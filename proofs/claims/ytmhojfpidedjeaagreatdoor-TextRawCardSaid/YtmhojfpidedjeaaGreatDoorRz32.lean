/- jacquardlaw25.raw: a block's phis. jacquardlaw25.raw: a block's instructions. jacquardlaw25.raw: its blocks. jacquardlaw25.raw: a function of few blocks, cut out of any function. -/
import Derived.Test.YtmhojfpidedjeaaGreatDoorRz31
namespace Go.Proofs.YtmhojfpidedjeaaGreatDoor
open Go.RowKit
set_option linter.unusedVariables false
theorem nums_shape {kd:IntKind} {w : World} {v : Value} {l : List Int} (h:Nums kd w v l):∃ a c,v=.slice a l.length c∧l.length≤c∧c≤maxLen:=by
 rcases h with ⟨a,h1,h2⟩|⟨b,off,cap,h1,h2,h3,_⟩
 ·subst h2;exact⟨a,0,h1,Nat.le_refl _,Nat.zero_le _⟩
 ·exact⟨_,cap,h1,h2,h3⟩
theorem pairs_shape {w : World} {v : Value} {l : List (Int × Int)} (h:PairsIn w v l):∃ a c,v=.slice a l.length c∧l.length≤c∧c≤maxLen:=by
 rcases h with ⟨a,h1,h2⟩|⟨b,off,cap,h1,h2,h3,_⟩
 ·subst h2;exact⟨a,0,h1,Nat.le_refl _,Nat.zero_le _⟩
 ·exact⟨_,cap,h1,h2,h3⟩
theorem all_add {α:Type} {l : List α} {p : α→Prop} {x : α} (h:∀ y∈l,p y) (hx:p x):∀ y∈l++[x],p y:=fun y hy=>by
 rcases List.mem_append.1 hy with h1|h1
 ·exact h y h1
 ·rw[List.mem_singleton.1 h1];exact hx
set_option maxHeartbeats 4000000 in
set_option maxRecDepth 1000000 in
theorem raw_phis (w w4:World) (pa:Option Addr) (np pc:Nat) (phs:List FPhi) (iv av0 tv0 av tv inv:Value) (kd im:Int) (il:List FIns) (qb qx:Nat) (v1 v2 v3 v4:Value) (a0:Act) (w1:World) (Q0:Exit→Act→World→Prop) (hfr:FrRw [(1,v1),(2,v2),(3,v3),(4,v4),(5,.pointer (some ⟨qb,0,none⟩)),(6,.pointer (some ⟨qx,0,none⟩)),(7,.int .i64 (0:Nat))] a0)
  (hw:Since w w4) (hb:HeapIs w4 qb #[.slice pa np pc,iv,.int .i64 kd,av0,tv0,.int .i32 im] 57) (hp:RowIn fpcells 2 FPhiIn w (.slice pa np pc) phs) (hnp:phs.length=np) (hr:∀ p∈phs,PhiR p) (hx:RawX w4 qx kd av tv im (.slice none 0 0) [] inv il w1)
  (hQ:∀ a1 w2 phv phl,FrRw [(1,v1),(2,v2),(3,v3),(4,v4),(5,.pointer (some ⟨qb,0,none⟩)),(6,.pointer (some ⟨qx,0,none⟩))] a1→(∀ p∈phl,FPhiIn w p∧PhiR p∧p.ins.length≤6)→phl.length≤4→RawX w4 qx kd av tv im phv phl inv il w2→Q0 .normal a1 w2):Code.wp Tryz.prog (RwCode [1,1,0,1,0,0,1,0,0,1,1,0,1]) Q0 a0 w1:=by
 obtain⟨u,ha0,hu⟩:=frameRw_ex hfr
 obtain⟨g1,g2,s1,s2,s3,s4,s5,s6,s7,g3⟩:=hfr
 have e1:=hu 1 _ s1
 have e2:=hu 2 _ s2
 have e3:=hu 3 _ s3
 have e4:=hu 4 _ s4
 have e5:=hu 5 _ s5
 have e6:=hu 6 _ s6
 have e7:=hu 7 _ s7
 rw[e1,e2,e3,e4,e5,e6,e7]at ha0
 subst ha0
 clear hu g1 g2 g3 e1 s1 e2 s2 e3 s3 e4 s4 e5 s5 e6 s6 e7 s7
 conv=>arg 2;whnf
 have HQ:=Lib.hid hQ
 have HW4:=Lib.hid hw
 have HB4:=Lib.hid hb
 have HXP:=Lib.hid hp
 have HPP:=Lib.hid hr
 have HNP:=Lib.hid hnp
 clear hQ hw hb hp hr hnp
 go_wp2_with fail
 refine wp_loop_fr (fun t ac wr=>∃ (j:Nat) (phv:Value) (phl:List FPhi),t=np-j∧j≤np∧j≤4∧phl.length=j∧FrRw [(1,v1),(2,v2),(3,v3),(4,v4),(5,.pointer (some ⟨qb,0,none⟩)),(6,.pointer (some ⟨qx,0,none⟩)),(7,.int .i64 j)] ac∧(∀ p∈phl,FPhiIn w p∧PhiR p∧p.ins.length≤6)∧RawX w4 qx kd av tv im phv phl inv il wr) np ⟨0,_,[],rfl,Nat.zero_le _,by decide,rfl,(frRw_mk rfl rfl (sl_cons rfl (sl_cons rfl (sl_cons rfl (sl_cons rfl (sl_cons rfl (sl_cons rfl (sl_cons rfl (sl_nil _))))))))),fun b hb=>(by cases hb),hx⟩ ?_
 ·clear hx
  intro t a1 wr K hJ hK
  have HK9:=Lib.hid hK
  clear hK
  obtain⟨j,phv,phl,rfl,hj,hj4,hpl,hf,hph,hx⟩:=hJ
  obtain⟨u,ha0,hu⟩:=frameRw_ex hf
  obtain⟨g1,g2,s1,s2,s3,s4,s5,s6,s7,g3⟩:=hf
  have e1:=hu 1 _ s1
  have e2:=hu 2 _ s2
  have e3:=hu 3 _ s3
  have e4:=hu 4 _ s4
  have e5:=hu 5 _ s5
  have e6:=hu 6 _ s6
  have e7:=hu 7 _ s7
  rw[e1,e2,e3,e4,e5,e6,e7]at ha0
  subst ha0
  clear hu g1 g2 g3 e1 s1 e2 s2 e3 s3 e4 s4 e5 s5 e6 s6 e7 s7
  obtain⟨oa,oc,eo⟩:=OwnRow.shape hx.phis
  rw[hpl]at eo
  subst eo
  have HX:=Lib.hid hx
  have HPH:=Lib.hid hph
  have hb:=HB4.out.keep hx.since
  have z0:=hb.cell 0
  have zl:=hb.lt
  have hw:=HW4.out.trans hx.since
  clear hb hx hph
  by_cases hjl:j<np
  ·by_cases hj5:j<4
   ·obtain⟨pb,po,y,rfl,hpb,hy,hyc,hyr⟩:=RowIn.at HXP.out (HNP.out ▸ hjl)
    obtain⟨pd,pi,pv⟩:=y
    obtain⟨xa,xc,ex,hxc,hxm⟩:=pairs_shape hyr
    obtain⟨nx,hnx⟩:∃ n,pi.length=n:=⟨_,rfl⟩
    dsimp only at ex hxc
    rw[hnx]at ex hxc
    subst ex
    unfold maxLen at hxm
    have q0:wr.cell? ⟨pb,po+j*2,none⟩=some (.int .i64 pd):=(hw.cell (p:=⟨pb,po+j*2+0,none⟩) hpb).trans (hyc 0 (by decide))
    have q1:wr.cell? ⟨pb,po+j*2+1,none⟩=some (.slice xa nx xc):=(hw.cell (p:=⟨pb,po+j*2+1,none⟩) hpb).trans (hyc 1 (by decide))
    have Q0:=Lib.hid q0
    have Q1:=Lib.hid q1
    have HPB:=Lib.hid (Nat.lt_of_lt_of_le hpb hw.size)
    have HYR:=Lib.hid (show PairsIn w (.slice xa nx xc) pi from hyr)
    have HYP:=Lib.hid (HPP.out _ (List.mem_of_getElem? hy))
    clear q0 q1 hyc hyr hw hy hpb hnx
    obtain⟨mx,hmx,hmx6⟩:∃ m,min nx 6=m∧m≤nx∧m≤6:=⟨_,rfl,by omega,by omega⟩
    have hmi2:min (nx:Int) 6=mx:=by omega
    have hmxc:mx≤xc:=by omega
    clear hxc hmx
    go_upto_region 10 with fail
    refine wp_region_since_tail 25 rfl (by decide +kernel) (by decide +kernel) (by decide +kernel) (by decide)
     [Is (.pointer (some ⟨qx,0,none⟩)),Is (.slice oa j oc),Is (.pointer (some ⟨qb,0,none⟩)),Is (.slice (some ⟨pb,po,none⟩) np pc),Is (.int .i64 j),Is (.pointer (some ⟨pb,po+j*2,none⟩)),Is (.pointer (some ⟨pb,po+j*2,none⟩)),Is (.int .i64 pd),Is (.pointer (some ⟨qb,0,none⟩)),Is (.slice (some ⟨pb,po,none⟩) np pc),Is (.int .i64 j),Is (.pointer (some ⟨pb,po+j*2,none⟩)),Is (.pointer (some ⟨pb,po+j*2+1,none⟩)),Is (.slice xa nx xc),Is (.pointer (some ⟨qb,0,none⟩)),Is (.slice (some ⟨pb,po,none⟩) np pc),Is (.int .i64 j),Is (.pointer (some ⟨pb,po+j*2,none⟩)),Is (.pointer (some ⟨pb,po+j*2+1,none⟩)),Is (.slice xa nx xc),Is (.int .i64 nx),Is (.int .i64 mx),Is (.slice xa mx xc),Is (.agg #[.int .i64 pd,.slice xa mx xc]),NewRow #[.int .i64 pd,.slice xa mx xc] 60 1]
     (by repeat (first | exact trivial | refine⟨Is.stable _,?_⟩ | refine⟨IsNums.stable _ _,?_⟩ | refine⟨IsRows.stable _ _,?_⟩ | refine⟨NewRow.stable _ _ _,?_⟩)) ⟨?_,?_,?_,?_,?_,?_,?_,?_,?_,?_,?_,?_,?_,?_,?_,?_,?_,?_,?_,?_,?_,?_,?_,?_,?_,trivial⟩ ?_
    all_goals
     intro vs w10 hs hk
     try intro _
     simp only[List.take,List.drop,putAll,Act.put,Knows,KnowsAll,nthF,Is,List.setIfInBounds_toArray,List.set_cons_zero,List.set_cons_succ,Nat.reduceAdd]at hk ⊢
     try simp only[hk]
    ·go_wp2
     exact⟨_,rfl,rfl,Since.refl _⟩
    ·have hb:=(HX.out.keep hs).box
     have z9:=hb.cell 0
     have z8:=hb.lt
     clear hb
     go_wp2
     exact⟨_,rfl,rfl,Since.refl _⟩
    ·go_wp2
     exact⟨_,rfl,rfl,Since.refl _⟩
    ·have hb:=(HB4.out.keep HX.out.since).keep hs
     have z9:=hb.cell 0
     have z8:=hb.lt
     clear hb
     go_wp2
     exact⟨_,rfl,rfl,Since.refl _⟩
    ·go_wp2
     exact⟨_,rfl,rfl,Since.refl _⟩
    ·go_wp2
     exact⟨_,rfl,rfl,Since.refl _⟩
    ·go_wp2
     exact⟨_,rfl,rfl,Since.refl _⟩
    ·have z9:w10.cell? ⟨pb,po+j*2,none⟩=_:=(hs.cell (p:=⟨pb,po+j*2,none⟩) HPB.out).trans Q0.out
     have z8:=Nat.lt_of_lt_of_le HPB.out hs.size
     go_wp2
     exact⟨_,rfl,rfl,Since.refl _⟩
    ·go_wp2
     exact⟨_,rfl,rfl,Since.refl _⟩
    ·have hb:=(HB4.out.keep HX.out.since).keep hs
     have z9:=hb.cell 0
     have z8:=hb.lt
     clear hb
     go_wp2
     exact⟨_,rfl,rfl,Since.refl _⟩
    ·go_wp2
     exact⟨_,rfl,rfl,Since.refl _⟩
    ·go_wp2
     exact⟨_,rfl,rfl,Since.refl _⟩
    ·go_wp2
     exact⟨_,rfl,rfl,Since.refl _⟩
    ·have z9:w10.cell? ⟨pb,po+j*2+1,none⟩=_:=(hs.cell (p:=⟨pb,po+j*2+1,none⟩) HPB.out).trans Q1.out
     have z8:=Nat.lt_of_lt_of_le HPB.out hs.size
     go_wp2
     exact⟨_,rfl,rfl,Since.refl _⟩
    ·go_wp2
     exact⟨_,rfl,rfl,Since.refl _⟩
    ·have hb:=(HB4.out.keep HX.out.since).keep hs
     have z9:=hb.cell 0
     have z8:=hb.lt
     clear hb
     go_wp2
     exact⟨_,rfl,rfl,Since.refl _⟩
    ·go_wp2
     exact⟨_,rfl,rfl,Since.refl _⟩
    ·go_wp2
     exact⟨_,rfl,rfl,Since.refl _⟩
    ·go_wp2
     exact⟨_,rfl,rfl,Since.refl _⟩
    ·have z9:w10.cell? ⟨pb,po+j*2+1,none⟩=_:=(hs.cell (p:=⟨pb,po+j*2+1,none⟩) HPB.out).trans Q1.out
     have z8:=Nat.lt_of_lt_of_le HPB.out hs.size
     go_wp2
     exact⟨_,rfl,rfl,Since.refl _⟩
    ·go_wp2
     exact⟨_,rfl,rfl,Since.refl _⟩
    ·go_wp2
     exact⟨_,rfl,rfl,Since.refl _⟩
    ·go_wp2
     exact⟨_,rfl,rfl,Since.refl _⟩
    ·go_wp2
     exact⟨_,rfl,rfl,Since.refl _⟩
    ·go_wp2
     exact⟨_,rfl,⟨_,rfl,HeapIs.new _ _ _⟩,(Since.refl _).alloc _⟩
    ·obtain⟨gq,hgq,hgb⟩:=(show NewRow _ _ _ _ _ from hk.2.2.2.2.2.2.2.2.2.2.2.2.2.2.2.2.2.2.2.2.2.2.2.2.1)
     simp only[hgq]
     have HGB:=Lib.hid hgb
     have HXW:=Lib.hid (HX.out.keep hs)
     have HPL:=Lib.hid hpl
     clear hs hk hgq hgb z0 zl
     go_wp2_with (at_builtin;refine wpList_append_one2 fpcells 2 fpcells_len (by decide) rfl _ _ 55 rfl 60 (.agg #[.int .i64 0,.slice none 0 0]) 32 Tryz.underlying55 (by kernel_rfl) rfl (.slice oa j oc) phl ⟨pd,pi.take mx,.slice xa mx xc⟩ _ 1 _ rfl rfl HXW.out.phis HGB.out (fun u hu=>by simp only[fpcells,List.mem_cons,List.not_mem_nil,or_false]at hu;rcases hu with rfl | rfl<;>rfl) (by rw[HPL.out];unfold maxLen;omega) (by rw[HPL.out];omega) HXW.out.since.size ?_;intro v9 w11 ho9 ht9 hn9;obtain⟨va,vc,hv9⟩:=OwnRow.shape ho9;rw[List.length_append,HPL.out,List.length_singleton]at hv9;subst hv9;have b9:=HXW.out.box.turn ht9 (own_not HXW.out.phis HXW.out.box (by decide));have s0:=b9.cell 0;have s1:=b9.frozen 0;have s2:=b9.lt;have HX11:=Lib.hid (HXW.out.addPhi ho9 ht9);clear b9 ho9 ht9 hn9)
     exact HK9.out (np-(j+1)) _ _ (by omega) ⟨j+1,_,phl++[⟨pd,pi.take mx,.slice xa mx xc⟩],rfl,by omega,by omega,by rw[List.length_append,HPL.out];rfl,(frRw_mk rfl rfl (sl_cons rfl (sl_cons rfl (sl_cons rfl (sl_cons rfl (sl_cons rfl (sl_cons rfl (sl_cons rfl (sl_nil _))))))))),all_add HPH.out ⟨(show FPhiIn w ⟨pd,pi.take mx,.slice xa mx xc⟩ from RowIn.cut HYR.out hmx6.1),⟨HYP.out.dst,fun u hu=>HYP.out.ins u (List.mem_of_mem_take hu)⟩,(by show (pi.take mx).length≤6;rw[List.length_take];omega)⟩,HX11.out⟩
   ·obtain rfl:j=4:=by omega
    clear hw hj5
    go_wp2_with fail
    exact HQ.out _ _ _ _ (frRw_mk rfl rfl (sl_cons rfl (sl_cons rfl (sl_cons rfl (sl_cons rfl (sl_cons rfl (sl_cons rfl (sl_nil _)))))))) HPH.out (by rw[hpl];exact hj4) HX.out
  ·obtain rfl:j=np:=by omega
   clear hw hjl
   go_wp2_with fail
   exact HQ.out _ _ _ _ (frRw_mk rfl rfl (sl_cons rfl (sl_cons rfl (sl_cons rfl (sl_cons rfl (sl_cons rfl (sl_cons rfl (sl_nil _)))))))) HPH.out (by rw[hpl];exact hj4) HX.out
theorem RawX.turnOut {wx w w':World} {q r:Nat} {k im:Int} {av tv phv inv:Value} {phl:List FPhi} {il:List FIns} {wr:World} (h:RawX wx q k av tv im phv phl inv il w) (t:Turn (fun x=>x=r) w w') (h0:RawX wx q k av tv im phv phl inv il wr) (hr:wr.heap.size≤r):RawX wx q k av tv im phv phl inv il w':=by
 have g1:=h0.box.lt
 have g2:=h0.since.size
 have glt:∀ {α:Type} {f : α→List Value} {sz:Nat} {e : TypeId} {v : Value} {l : List α},OwnRow f sz e wx.heap.size wr v l→∀ x,v.ownBlock=some x→¬ x=r:=fun ho x hx e=>by
  obtain⟨cur,hc⟩:=own_heap ho hx
  have:=(Array.getElem?_eq_some_iff.1 hc).1
  omega
 exact⟨h.low,t.toSince h.since fun x hx e=>by omega,h.box.turn t (by omega),own_turn h.phis t (glt h0.phis),own_turn h.ins t (glt h0.ins)⟩
set_option maxHeartbeats 4000000 in
set_option maxRecDepth 1000000 in
theorem raw_ins (w w4:World) (ia:Option Addr) (ni ic:Nat) (is:List FIns) (pv av0 tv0 av tv phv:Value) (kd im:Int) (phl:List FPhi) (qb qx:Nat) (v1 v2 v3 v4:Value) (a0:Act) (w1:World) (Q0:Exit→Act→World→Prop) (hfr:FrRw [(1,v1),(2,v2),(3,v3),(4,v4),(5,.pointer (some ⟨qb,0,none⟩)),(6,.pointer (some ⟨qx,0,none⟩)),(8,.int .i64 (0:Nat))] a0)
  (hw:Since w w4) (hb:HeapIs w4 qb #[pv,.slice ia ni ic,.int .i64 kd,av0,tv0,.int .i32 im] 57) (hi:RowIn ficells 5 FInsIn w (.slice ia ni ic) is) (hni:is.length=ni) (hr:∀ p∈is,InsR p) (hx:RawX w4 qx kd av tv im phv phl (.slice none 0 0) [] w1)
  (hQ:∀ a1 w2 inv il,FrRw [(1,v1),(2,v2),(3,v3),(4,v4),(5,.pointer (some ⟨qb,0,none⟩)),(6,.pointer (some ⟨qx,0,none⟩))] a1→(∀ p∈il,FInsIn w p∧InsR p∧p.args.length≤6)→il.length≤6→RawX w4 qx kd av tv im phv phl inv il w2→Q0 .normal a1 w2):Code.wp Tryz.prog (RwCode [1,1,0,1,0,0,1,0,0,1,1,1,0,1]) Q0 a0 w1:=by
 obtain⟨u,ha0,hu⟩:=frameRw_ex hfr
 obtain⟨g1,g2,s1,s2,s3,s4,s5,s6,s8,g3⟩:=hfr
 have e1:=hu 1 _ s1
 have e2:=hu 2 _ s2
 have e3:=hu 3 _ s3
 have e4:=hu 4 _ s4
 have e5:=hu 5 _ s5
 have e6:=hu 6 _ s6
 have e8:=hu 8 _ s8
 rw[e1,e2,e3,e4,e5,e6,e8]at ha0
 subst ha0
 clear hu g1 g2 g3 e1 s1 e2 s2 e3 s3 e4 s4 e5 s5 e6 s6 e8 s8
 conv=>arg 2;whnf
 have HQ:=Lib.hid hQ
 have HW4:=Lib.hid hw
 have HB4:=Lib.hid hb
 have HXI:=Lib.hid hi
 have HII:=Lib.hid hr
 have HNI:=Lib.hid hni
 clear hQ hw hb hi hr hni
 go_wp2_with fail
 refine wp_loop_fr (fun t ac wr=>∃ (j:Nat) (inv:Value) (il:List FIns),t=ni-j∧j≤ni∧j≤6∧il.length=j∧FrRw [(1,v1),(2,v2),(3,v3),(4,v4),(5,.pointer (some ⟨qb,0,none⟩)),(6,.pointer (some ⟨qx,0,none⟩)),(8,.int .i64 j)] ac∧(∀ p∈il,FInsIn w p∧InsR p∧p.args.length≤6)∧RawX w4 qx kd av tv im phv phl inv il wr) ni ⟨0,_,[],rfl,Nat.zero_le _,by decide,rfl,(frRw_mk rfl rfl (sl_cons rfl (sl_cons rfl (sl_cons rfl (sl_cons rfl (sl_cons rfl (sl_cons rfl (sl_cons rfl (sl_nil _))))))))),fun b hb=>(by cases hb),hx⟩ ?_
 ·clear hx
  intro t a1 wr K hJ hK
  have HK9:=Lib.hid hK
  clear hK
  obtain⟨j,inv,il,rfl,hj,hj4,hil,hf,hph,hx⟩:=hJ
  obtain⟨u,ha0,hu⟩:=frameRw_ex hf
  obtain⟨g1,g2,s1,s2,s3,s4,s5,s6,s8,g3⟩:=hf
  have e1:=hu 1 _ s1
  have e2:=hu 2 _ s2
  have e3:=hu 3 _ s3
  have e4:=hu 4 _ s4
  have e5:=hu 5 _ s5
  have e6:=hu 6 _ s6
  have e8:=hu 8 _ s8
  rw[e1,e2,e3,e4,e5,e6,e8]at ha0
  subst ha0
  clear hu g1 g2 g3 e1 s1 e2 s2 e3 s3 e4 s4 e5 s5 e6 s6 e8 s8
  obtain⟨oa,oc,eo⟩:=OwnRow.shape hx.ins
  rw[hil]at eo
  subst eo
  have HX:=Lib.hid hx
  have HPH:=Lib.hid hph
  have hb:=HB4.out.keep hx.since
  have z0:=hb.cell 1
  have zl:=hb.lt
  have hw:=HW4.out.trans hx.since
  clear hb hx hph
  by_cases hjl:j<ni
  ·by_cases hj5:j<6
   ·obtain⟨pb,po,y,rfl,hpb,hy,hyc,hyr⟩:=RowIn.at HXI.out (HNI.out ▸ hjl)
    obtain⟨iop,idst,itwo,iargs,iarv,iimm⟩:=y
    obtain⟨xa,xc,ex,hxc,hxm⟩:=nums_shape (show Ints w iarv iargs from hyr)
    obtain⟨nx,hnx⟩:∃ n,iargs.length=n:=⟨_,rfl⟩
    rw[hnx]at ex hxc
    subst ex
    unfold maxLen at hxm
    have q0:wr.cell? ⟨pb,po+j*5,none⟩=some (.int .i64 iop):=(hw.cell (p:=⟨pb,po+j*5+0,none⟩) hpb).trans (hyc 0 (by decide))
    have q1:wr.cell? ⟨pb,po+j*5+1,none⟩=some (.int .i64 idst):=(hw.cell (p:=⟨pb,po+j*5+1,none⟩) hpb).trans (hyc 1 (by decide))
    have q2:wr.cell? ⟨pb,po+j*5+2,none⟩=some (.int .i64 itwo):=(hw.cell (p:=⟨pb,po+j*5+2,none⟩) hpb).trans (hyc 2 (by decide))
    have q3:wr.cell? ⟨pb,po+j*5+3,none⟩=some (.slice xa nx xc):=(hw.cell (p:=⟨pb,po+j*5+3,none⟩) hpb).trans (hyc 3 (by decide))
    have q4:wr.cell? ⟨pb,po+j*5+4,none⟩=some (.int .i32 iimm):=(hw.cell (p:=⟨pb,po+j*5+4,none⟩) hpb).trans (hyc 4 (by decide))
    have hpl:=Nat.lt_of_lt_of_le hpb hw.size
    have HYR:=Lib.hid (show Ints w (.slice xa nx xc) iargs from hyr)
    have HYP:=Lib.hid (HII.out _ (List.mem_of_getElem? hy))
    clear hyc hyr hw hy hpb hnx
    obtain⟨mx,hmx,hmx6⟩:∃ m,min nx 6=m∧m≤nx∧m≤6:=⟨_,rfl,by omega,by omega⟩
    have hmi2:min (nx:Int) 6=mx:=by omega
    have hmxc:mx≤xc:=by omega
    clear hxc hmx
    go_upto_region 15 with fail
    obtain⟨wn,hwn⟩:∃ z,z=wr.alloc (.cells #[.int .i64 iop,.int .i64 idst,.int .i64 itwo,.slice xa nx xc,.int .i32 iimm] 51):=⟨_,rfl⟩
    have hsn:Since wr wn:=by rw[hwn];exact (Since.refl _).alloc _
    obtain⟨nb,hnb⟩:∃ z,z=wr.heap.size:=⟨_,rfl⟩
    have hbn:HeapIs wn nb #[.int .i64 iop,.int .i64 idst,.int .i64 itwo,.slice xa nx xc,.int .i32 iimm] 51:=by rw[hwn,hnb];exact HeapIs.new _ _ _
    rw[←hwn,←hnb]
    have HXN:=Lib.hid (HX.out.keep hsn)
    have HBN:=Lib.hid hbn
    have y3:=hbn.cell 3
    have yf:=hbn.frozen 3
    have yl:=hbn.lt
    have HNB:=Lib.hid (show wr.heap.size≤nb from by omega)
    have HIL:=Lib.hid hil
    clear hwn hnb hsn hbn q0 q1 q2 q3 q4 hpl z0 zl hil
    go_upto_region 16 with fail
    obtain⟨wc,hwc⟩:∃ z,z=wn.setCell ⟨nb,3,none⟩ (.slice xa mx xc):=⟨_,rfl⟩
    have htc:Turn (fun r=>r=nb) wn wc:=by rw[hwc];exact (Turn.refl _ _).setCell (by rfl) _
    have hbc:HeapIs wc nb #[.int .i64 iop,.int .i64 idst,.int .i64 itwo,.slice xa mx xc,.int .i32 iimm] 51:=by rw[hwc];exact HBN.out.set 3 _
    rw[←hwc]
    have y0:=hbc.cell 0
    have y1:=hbc.cell 1
    have y2:=hbc.cell 2
    have y3':=hbc.cell 3
    have y4:=hbc.cell 4
    have yl':=hbc.lt
    have HXC:=Lib.hid (HXN.out.turnOut htc HX.out HNB.out)
    have bx:=HXC.out.box
    have x1:=bx.cell 1
    have x2:=bx.lt
    clear bx y3 yf yl htc hbc hwc
    go_wp2_with (at_builtin;refine wpList_append_one2 ficells 5 ficells_len (by decide) rfl _ _ 52 rfl 51 (.agg #[.int .i64 0,.int .i64 0,.int .i64 0,.slice none 0 0,.int .i32 0]) 56 Tryz.underlying52 (by kernel_rfl) rfl (.slice oa j oc) il ⟨iop,idst,itwo,iargs.take mx,.slice xa mx xc,iimm⟩ _ 1 _ rfl rfl (OwnRow.keep HXC.out.ins ((Since.refl _).alloc _)) (HeapIs.new _ _ _) (fun u hu=>by simp only[ficells,List.mem_cons,List.not_mem_nil,or_false]at hu;rcases hu with rfl | rfl | rfl | rfl | rfl<;>rfl) (by rw[HIL.out];unfold maxLen;omega) (by rw[HIL.out];omega) (by have:=HXC.out.since.size;simp only[World.alloc,Array.size_push];omega) ?_;intro v9 w11 ho9 ht9 hn9;obtain⟨va,vc,hv9⟩:=OwnRow.shape ho9;rw[List.length_append,HIL.out,List.length_singleton]at hv9;subst hv9;have hs11:Since wc (wc.alloc (.cells #[.int .i64 iop,.int .i64 idst,.int .i64 itwo,.slice xa mx xc,.int .i32 iimm] 51)):=(Since.refl wc).alloc _;have HXW:=Lib.hid (HXC.out.keep hs11);clear hs11;have b9:=HXW.out.box.turn ht9 (own_not HXW.out.ins HXW.out.box (by decide));have s0:=b9.cell 1;have s1:=b9.frozen 1;have s2:=b9.lt;have HX11:=Lib.hid (HXW.out.addIns ho9 ht9);clear b9 ho9 ht9 hn9)
    exact HK9.out (ni-(j+1)) _ _ (by omega) ⟨j+1,_,il++[⟨iop,idst,itwo,iargs.take mx,.slice xa mx xc,iimm⟩],rfl,by omega,by omega,by rw[List.length_append,HIL.out];rfl,(frRw_mk rfl rfl (sl_cons rfl (sl_cons rfl (sl_cons rfl (sl_cons rfl (sl_cons rfl (sl_cons rfl (sl_cons rfl (sl_nil _))))))))),all_add HPH.out ⟨(show FInsIn w ⟨iop,idst,itwo,iargs.take mx,.slice xa mx xc,iimm⟩ from Nums.cutTo HYR.out hmx6.1),⟨HYP.out.op,HYP.out.dst,HYP.out.two,fun u hu=>HYP.out.args u (List.mem_of_mem_take hu),HYP.out.imm⟩,(by show (iargs.take mx).length≤6;rw[List.length_take];omega)⟩,HX11.out⟩
   ·obtain rfl:j=6:=by omega
    clear hw hj5
    go_wp2_with fail
    exact HQ.out _ _ _ _ (frRw_mk rfl rfl (sl_cons rfl (sl_cons rfl (sl_cons rfl (sl_cons rfl (sl_cons rfl (sl_cons rfl (sl_nil _)))))))) HPH.out (by rw[hil];exact hj4) HX.out
  ·obtain rfl:j=ni:=by omega
   clear hw hjl
   go_wp2_with fail
   exact HQ.out _ _ _ _ (frRw_mk rfl rfl (sl_cons rfl (sl_cons rfl (sl_cons rfl (sl_cons rfl (sl_cons rfl (sl_cons rfl (sl_nil _)))))))) HPH.out (by rw[hil];exact hj4) HX.out
structure FewBlk (b:FBlk):Prop where
 r:BlkR b
 phis:b.phis.length≤4
 phi:∀ p∈b.phis,p.ins.length≤6
 ins:b.ins.length≤6
 inx:∀ i∈b.ins,i.args.length≤6
 ar:b.term.args.length≤6
 tg:b.term.to.length≤6
theorem fb_one {wx w:World} {q : Nat} {k im k2 im2:Int} {av tv phv inv:Value} {phl:List FPhi} {il:List FIns} {x3 x4:Option Addr} {n3 n4 c3 c4:Nat} {l1 l2:List Int} (h:RawX wx q k av tv im phv phl inv il w) (h':RawX wx q k (.slice x3 n3 c3) (.slice x4 n4 c4) im phv phl inv il w):∀ u∈fbcells ⟨phl,phv,il,inv,⟨k2,l1,.slice x3 n3 c3,l2,.slice x4 n4 c4,im2⟩⟩,u.oneCell'=true:=fun u hu=>by
 obtain⟨a1,c1,e1⟩:=OwnRow.shape h.phis
 obtain⟨a2,c2,e2⟩:=OwnRow.shape h.ins
 subst e1
 subst e2
 simp only[fbcells,List.mem_cons,List.not_mem_nil,or_false]at hu
 rcases hu with rfl|rfl|rfl|rfl|rfl|rfl<;>rfl
set_option maxHeartbeats 4000000 in
set_option maxRecDepth 1000000 in
theorem raw_blocks (w w2:World) (p1:Int) (b1:List FBlk) (a1:Option Addr) (n1 c1 q:Nat) (a0:Act) (w1:World) (Q0:Exit→Act→World→Prop) (hfr:FrRw [(1,.pointer (some ⟨q,0,none⟩)),(2,.pointer (some ⟨q+1,0,none⟩)),(3,.pointer (some ⟨q+1+1,0,none⟩)),(4,.int .i64 (0:Nat))] a0)
  (hf0:RowIn fbcells 6 FBlkIn w (.slice a1 n1 c1) b1) (hn1:b1.length=n1) (hl1:n1≤maxLen) (hr:∀ b∈b1,BlkR b) (hs2:Since w w2) (hb1:HeapIs w2 q #[.int .i64 p1,.slice a1 n1 c1] 24) (hg:RawG w w2 (q+1+1) p1 (.slice none 0 0) [] w1)
  (hQ:∀ a2 wr gv gl,FrRw [(1,.pointer (some ⟨q,0,none⟩)),(2,.pointer (some ⟨q+1,0,none⟩)),(3,.pointer (some ⟨q+1+1,0,none⟩))] a2→(∀ b∈gl,FewBlk b)→gl.length≤5→RawG w w2 (q+1+1) p1 gv gl wr→Q0 .normal a2 wr):Code.wp Tryz.prog (RwCode [1,1,0,1]) Q0 a0 w1:=by
 obtain⟨u,ha0,hu⟩:=frameRw_ex hfr
 obtain⟨g1,g2,s1,s2,s3,s4,g3⟩:=hfr
 have e1:=hu 1 _ s1
 have e2:=hu 2 _ s2
 have e3:=hu 3 _ s3
 have e4:=hu 4 _ s4
 rw[e1,e2,e3,e4]at ha0
 subst ha0
 clear hu g1 g2 g3 e1 s1 e2 s2 e3 s3 e4 s4
 conv=>arg 2;whnf
 have HQ:=Lib.hid hQ
 have HF0:=Lib.hid hf0
 have HR:=Lib.hid hr
 have HS2:=Lib.hid hs2
 have HB1:=Lib.hid hb1
 have HN1:=Lib.hid hn1
 unfold maxLen at hl1
 clear hQ hf0 hr hs2 hb1 hn1
 go_wp2_with fail
 refine wp_loop_fr (fun t ac wr=>∃ (k:Nat) (gv:Value) (gl:List FBlk),t=n1-k∧k≤n1∧k≤5∧gl.length=k∧FrRw [(1,.pointer (some ⟨q,0,none⟩)),(2,.pointer (some ⟨q+1,0,none⟩)),(3,.pointer (some ⟨q+1+1,0,none⟩)),(4,.int .i64 k)] ac∧(∀ b∈gl,FewBlk b)∧RawG w w2 (q+1+1) p1 gv gl wr) n1 ⟨0,_,[],rfl,Nat.zero_le _,by decide,rfl,(frRw_mk rfl rfl (sl_cons rfl (sl_cons rfl (sl_cons rfl (sl_cons rfl (sl_nil _)))))),fun b hb=>(by cases hb),hg⟩ ?_
 ·clear hg
  intro t a1 wr K hJ hK
  have HK9:=Lib.hid hK
  clear hK
  obtain⟨k,gv,gl,rfl,hk,hk5,hgl,hf,hfew,hg⟩:=hJ
  obtain⟨u,ha0,hu⟩:=frameRw_ex hf
  obtain⟨g1,g2,s1,s2,s3,s4,g3⟩:=hf
  have e1:=hu 1 _ s1
  have e2:=hu 2 _ s2
  have e3:=hu 3 _ s3
  have e4:=hu 4 _ s4
  rw[e1,e2,e3,e4]at ha0
  subst ha0
  clear hu g1 g2 g3 e1 s1 e2 s2 e3 s3 e4 s4
  have HG:=Lib.hid hg
  have HFW:=Lib.hid hfew
  have hb:=HB1.out.keep hg.since
  have z0:=hb.cell 0
  have z1:=hb.cell 1
  have z2:=hb.lt
  obtain⟨ga,gc,eg,_⟩:=RowIn.shape hg.fn
  replace eg:gv=.slice ga k gc:=by rw[←hgl];exact eg
  subst eg
  clear hb hg hfew
  by_cases hlt:k<n1
  ·by_cases h5:k<5
   ·obtain⟨rb,off,x,rfl,hrb,hx,hc,hxr⟩:=RowIn.at HF0.out (HN1.out ▸ hlt)
    obtain⟨phs,phv0,ins,inv0,kd,ar,arv,tg,tgv,im⟩:=x
    obtain⟨hxp,hxi,hxa,hxo⟩:=hxr
    dsimp only at hxp hxi hxa hxo
    obtain⟨pa,pc,ep,_⟩:=RowIn.shape hxp
    obtain⟨ia,ic,ei,_⟩:=RowIn.shape hxi
    obtain⟨np,hnp⟩:∃ n,phs.length=n:=⟨_,rfl⟩
    obtain⟨ni,hni⟩:∃ n,ins.length=n:=⟨_,rfl⟩
    obtain rfl:phv0=.slice pa np pc:=by rw[←hnp];exact ep
    obtain rfl:inv0=.slice ia ni ic:=by rw[←hni];exact ei
    obtain⟨aa,ac,ea,hac,hacm⟩:=nums_shape hxa
    obtain⟨ta,tc,et,htc,htcm⟩:=nums_shape hxo
    obtain⟨na,hna⟩:∃ n,ar.length=n:=⟨_,rfl⟩
    obtain⟨nt,hnt⟩:∃ n,tg.length=n:=⟨_,rfl⟩
    obtain rfl:arv=.slice aa na ac:=by rw[←hna];exact ea
    obtain rfl:tgv=.slice ta nt tc:=by rw[←hnt];exact et
    rw[hna]at hac
    rw[hnt]at htc
    unfold maxLen at hacm htcm
    have hs:=HS2.out.trans HG.out.since
    have hc0:wr.cell? ⟨rb,off+k*6,none⟩=some (.slice pa np pc):=(hs.cell (p:=⟨rb,off+k*6+0,none⟩) hrb).trans (hc 0 (by decide))
    have hc1:wr.cell? ⟨rb,off+k*6+1,none⟩=some (.slice ia ni ic):=(hs.cell (p:=⟨rb,off+k*6+1,none⟩) hrb).trans (hc 1 (by decide))
    have hc2:wr.cell? ⟨rb,off+k*6+2,none⟩=some (.int .i64 kd):=(hs.cell (p:=⟨rb,off+k*6+2,none⟩) hrb).trans (hc 2 (by decide))
    have hc3:wr.cell? ⟨rb,off+k*6+3,none⟩=some (.slice aa na ac):=(hs.cell (p:=⟨rb,off+k*6+3,none⟩) hrb).trans (hc 3 (by decide))
    have hc4:wr.cell? ⟨rb,off+k*6+4,none⟩=some (.slice ta nt tc):=(hs.cell (p:=⟨rb,off+k*6+4,none⟩) hrb).trans (hc 4 (by decide))
    have hc5:wr.cell? ⟨rb,off+k*6+5,none⟩=some (.int .i32 im):=(hs.cell (p:=⟨rb,off+k*6+5,none⟩) hrb).trans (hc 5 (by decide))
    have hrbr:=Nat.lt_of_lt_of_le hrb hs.size
    have HXP:=Lib.hid hxp
    have HXI:=Lib.hid hxi
    have HXA:=Lib.hid hxa
    have HXO:=Lib.hid hxo
    have HXB:=Lib.hid (HR.out _ (List.mem_of_getElem? hx))
    clear hs hc hx hxp hxi hxa hxo ep ei ea et hrb
    go_upto_region 6 with fail
    obtain⟨qb,hqb⟩:∃ q,wr.heap.size=q:=⟨_,rfl⟩
    have hs4:Since wr (wr.alloc (.cells #[.slice pa np pc,.slice ia ni ic,.int .i64 kd,.slice aa na ac,.slice ta nt tc,.int .i32 im] 57)):=(Since.refl wr).alloc _
    have hb4:=HeapIs.new wr #[.slice pa np pc,.slice ia ni ic,.int .i64 kd,.slice aa na ac,.slice ta nt tc,.int .i32 im] 57
    obtain⟨w4,hw4⟩:∃ w4,wr.alloc (.cells #[.slice pa np pc,.slice ia ni ic,.int .i64 kd,.slice aa na ac,.slice ta nt tc,.int .i32 im] 57)=w4:=⟨_,rfl⟩
    rw[hw4]at hs4 hb4
    rw[hqb]at hb4
    try rw[hw4]
    try rw[hqb]
    have HB4:=Lib.hid hb4
    have HG4:=Lib.hid (HG.out.keep hs4)
    clear hs4 hb4 hw4 hqb z0 z1 z2 hc0 hc1 hc2 hc3 hc4 hc5
    obtain⟨ma,hma,hma6⟩:∃ m,min na 6=m∧m≤na∧m≤6:=⟨_,rfl,by omega,by omega⟩
    obtain⟨mt,hmt,hmt6⟩:∃ m,min nt 6=m∧m≤nt∧m≤6:=⟨_,rfl,by omega,by omega⟩
    have hmi:min (na:Int) 6=ma:=by omega
    have hti:min (nt:Int) 6=mt:=by omega
    have hmc:ma≤ac:=by omega
    have htm:mt≤tc:=by omega
    clear hac htc hmt hma
    refine wp_region_since_tail 27 rfl (by decide +kernel) (by decide +kernel) (by decide +kernel) (by decide)
     [Is (.pointer (some ⟨qb,2,none⟩)),Is (.pointer (some ⟨qb,2,none⟩)),Is (.int .i64 kd),Is (.pointer (some ⟨qb,2,none⟩)),Is (.pointer (some ⟨qb,5,none⟩)),Is (.int .i32 im),Is (.pointer (some ⟨qb,2,none⟩)),Is (.pointer (some ⟨qb,3,none⟩)),Is (.slice aa na ac),Is (.pointer (some ⟨qb,2,none⟩)),Is (.pointer (some ⟨qb,3,none⟩)),Is (.slice aa na ac),Is (.int .i64 na),Is (.int .i64 ma),Is (.slice aa ma ac),Is (.pointer (some ⟨qb,2,none⟩)),Is (.pointer (some ⟨qb,4,none⟩)),Is (.slice ta nt tc),Is (.pointer (some ⟨qb,2,none⟩)),Is (.pointer (some ⟨qb,4,none⟩)),Is (.slice ta nt tc),Is (.int .i64 nt),Is (.int .i64 mt),Is (.slice ta mt tc),Is (.agg #[.int .i64 kd,.slice aa ma ac,.slice ta mt tc,.int .i32 im]),Is (.agg #[.slice none 0 0,.slice none 0 0,.int .i64 kd,.slice aa ma ac,.slice ta mt tc,.int .i32 im]),NewBox w4.heap.size #[.slice none 0 0,.slice none 0 0,.int .i64 0,.slice none 0 0,.slice none 0 0,.int .i32 0] 57]
     (by repeat (first | exact trivial | refine⟨Is.stable _,?_⟩ | refine⟨IsNums.stable _ _,?_⟩ | refine⟨IsRows.stable _ _,?_⟩ | refine⟨NewBox.stable _ _ _,?_⟩)) ⟨?_,?_,?_,?_,?_,?_,?_,?_,?_,?_,?_,?_,?_,?_,?_,?_,?_,?_,?_,?_,?_,?_,?_,?_,?_,?_,?_,trivial⟩ ?_
    all_goals
     intro vs w8 hs hk
     try intro _
     simp only[List.take,List.drop,putAll,Act.put,Knows,KnowsAll,nthF,Is,List.setIfInBounds_toArray,List.set_cons_zero,List.set_cons_succ,Nat.reduceAdd]at hk ⊢
     try simp only[hk]
    ·go_wp2
     exact⟨_,rfl,rfl,Since.refl _⟩
    ·go_wp2
     exact⟨_,rfl,rfl,Since.refl _⟩
    ·have hb:=HB4.out.keep hs
     have z2:=hb.cell 2
     have z3:=hb.cell 3
     have z4:=hb.cell 4
     have z5:=hb.cell 5
     have zl:=hb.lt
     clear hb
     go_wp2
     exact⟨_,rfl,rfl,Since.refl _⟩
    ·go_wp2
     exact⟨_,rfl,rfl,Since.refl _⟩
    ·go_wp2
     exact⟨_,rfl,rfl,Since.refl _⟩
    ·have hb:=HB4.out.keep hs
     have z2:=hb.cell 2
     have z3:=hb.cell 3
     have z4:=hb.cell 4
     have z5:=hb.cell 5
     have zl:=hb.lt
     clear hb
     go_wp2
     exact⟨_,rfl,rfl,Since.refl _⟩
    ·go_wp2
     exact⟨_,rfl,rfl,Since.refl _⟩
    ·go_wp2
     exact⟨_,rfl,rfl,Since.refl _⟩
    ·have hb:=HB4.out.keep hs
     have z2:=hb.cell 2
     have z3:=hb.cell 3
     have z4:=hb.cell 4
     have z5:=hb.cell 5
     have zl:=hb.lt
     clear hb
     go_wp2
     exact⟨_,rfl,rfl,Since.refl _⟩
    ·go_wp2
     exact⟨_,rfl,rfl,Since.refl _⟩
    ·go_wp2
     exact⟨_,rfl,rfl,Since.refl _⟩
    ·have hb:=HB4.out.keep hs
     have z2:=hb.cell 2
     have z3:=hb.cell 3
     have z4:=hb.cell 4
     have z5:=hb.cell 5
     have zl:=hb.lt
     clear hb
     go_wp2
     exact⟨_,rfl,rfl,Since.refl _⟩
    ·go_wp2
     exact⟨_,rfl,rfl,Since.refl _⟩
    ·go_wp2
     exact⟨_,rfl,rfl,Since.refl _⟩
    ·go_wp2
     exact⟨_,rfl,rfl,Since.refl _⟩
    ·go_wp2
     exact⟨_,rfl,rfl,Since.refl _⟩
    ·go_wp2
     exact⟨_,rfl,rfl,Since.refl _⟩
    ·have hb:=HB4.out.keep hs
     have z2:=hb.cell 2
     have z3:=hb.cell 3
     have z4:=hb.cell 4
     have z5:=hb.cell 5
     have zl:=hb.lt
     clear hb
     go_wp2
     exact⟨_,rfl,rfl,Since.refl _⟩
    ·go_wp2
     exact⟨_,rfl,rfl,Since.refl _⟩
    ·go_wp2
     exact⟨_,rfl,rfl,Since.refl _⟩
    ·have hb:=HB4.out.keep hs
     have z2:=hb.cell 2
     have z3:=hb.cell 3
     have z4:=hb.cell 4
     have z5:=hb.cell 5
     have zl:=hb.lt
     clear hb
     go_wp2
     exact⟨_,rfl,rfl,Since.refl _⟩
    ·go_wp2
     exact⟨_,rfl,rfl,Since.refl _⟩
    ·go_wp2
     exact⟨_,rfl,rfl,Since.refl _⟩
    ·go_wp2
     exact⟨_,rfl,rfl,Since.refl _⟩
    ·go_wp2
     exact⟨_,rfl,rfl,Since.refl _⟩
    ·go_wp2
     exact⟨_,rfl,rfl,Since.refl _⟩
    ·go_wp2
     exact⟨_,rfl,⟨_,rfl,HeapIs.new _ _ _,hs.size⟩,(Since.refl _).alloc _⟩
    ·obtain⟨qx,hqx,hbx,hlx⟩:=(show NewBox _ _ _ _ _ from hk.2.2.2.2.2.2.2.2.2.2.2.2.2.2.2.2.2.2.2.2.2.2.2.2.2.2.1)
     simp only[hqx]
     have HBX:=Lib.hid hbx
     have HSX:=Lib.hid hs
     have HLX:=Lib.hid hlx
     clear hs hk hqx hbx hlx
     go_upto_region 7 with (refine wpList_store_row rfl 57 _ _ rfl qx #[.slice none 0 0,.slice none 0 0,.int .i64 kd,.slice aa ma ac,.slice ta mt tc,.int .i32 im] rfl rfl 57 _ HBX.out (by kernel_rfl) rfl (by rw[←Array.all_toList];rfl) ?_;have hz6:=put_block HBX.out #[.slice none 0 0,.slice none 0 0,.int .i64 kd,.slice aa ma ac,.slice ta mt tc,.int .i32 im];have ht6:=put_turn (S:=fun r=>r=qx) (w:=w8) rfl #[.slice none 0 0,.slice none 0 0,.int .i64 kd,.slice aa ma ac,.slice ta mt tc,.int .i32 im];generalize w8.setRow qx #[.slice none 0 0,.slice none 0 0,.int .i64 kd,.slice aa ma ac,.slice ta mt tc,.int .i32 im]=w9 at *;have HX9:=Lib.hid (RawX.start HLX.out HSX.out ht6 _ _ _ _ hz6);clear hz6 ht6)
     go_upto_block 2 with fail
     have HW4:=Lib.hid (HS2.out.trans HG4.out.since)
     refine raw_phis w w4 pa np pc phs _ _ _ _ _ _ kd im [] qb qx _ _ _ _ _ _ _ (frRw_mk rfl rfl (sl_cons rfl (sl_cons rfl (sl_cons rfl (sl_cons rfl (sl_cons rfl (sl_cons rfl (sl_cons rfl (sl_nil _))))))))) HW4.out HB4.out HXP.out hnp HXB.out.phis HX9.out ?_
     intro a1 w10 phv phl hf hph hpl hx
     clear HX9
     obtain⟨u,ha0,hu⟩:=frameRw_ex hf
     obtain⟨g1,g2,s1,s2,s3,s4,s5,s6,g3⟩:=hf
     have e1:=hu 1 _ s1
     have e2:=hu 2 _ s2
     have e3:=hu 3 _ s3
     have e4:=hu 4 _ s4
     have e5:=hu 5 _ s5
     have e6:=hu 6 _ s6
     rw[e1,e2,e3,e4,e5,e6]at ha0
     subst ha0
     clear hu g1 g2 g3 e1 s1 e2 s2 e3 s3 e4 s4 e5 s5 e6 s6
     have HX10:=Lib.hid hx
     have HPH:=Lib.hid (And.intro hph hpl)
     clear hx hph hpl
     go_upto_block 4 with fail
     refine raw_ins w w4 ia ni ic ins _ _ _ _ _ _ kd im phl qb qx _ _ _ _ _ _ _ (frRw_mk rfl rfl (sl_cons rfl (sl_cons rfl (sl_cons rfl (sl_cons rfl (sl_cons rfl (sl_cons rfl (sl_cons rfl (sl_nil _))))))))) HW4.out HB4.out HXI.out hni HXB.out.ins HX10.out ?_
     intro a1 w11 inv il hf hil hin hx
     clear HX10
     obtain⟨u,ha0,hu⟩:=frameRw_ex hf
     obtain⟨g1,g2,s1,s2,s3,s4,s5,s6,g3⟩:=hf
     have e1:=hu 1 _ s1
     have e2:=hu 2 _ s2
     have e3:=hu 3 _ s3
     have e4:=hu 4 _ s4
     have e5:=hu 5 _ s5
     have e6:=hu 6 _ s6
     rw[e1,e2,e3,e4,e5,e6]at ha0
     subst ha0
     clear hu g1 g2 g3 e1 s1 e2 s2 e3 s3 e4 s4 e5 s5 e6 s6
     have HX11:=Lib.hid hx
     have HIL:=Lib.hid (And.intro hil hin)
     have HG11:=Lib.hid (HG4.out.keep hx.since)
     have y1:=HG11.out.box.cell 1
     have yl:=HG11.out.box.lt
     have x0:=hx.box.cell 0
     have x1:=hx.box.cell 1
     have x2:=hx.box.cell 2
     have x3:=hx.box.cell 3
     have x4:=hx.box.cell 4
     have x5:=hx.box.cell 5
     have xl:=hx.box.lt
     have HGL:=Lib.hid hgl
     clear hx hil hin
     go_wp2_with (at_builtin;refine wpList_append_one2 fbcells 6 fbcells_len (by decide) rfl _ _ 22 rfl 57 (.agg #[.slice none 0 0,.slice none 0 0,.int .i64 0,.slice none 0 0,.slice none 0 0,.int .i32 0]) 112 Tryz.underlying22 (by kernel_rfl) rfl (.slice ga k gc) gl ⟨phl,phv,il,inv,⟨kd,ar.take ma,.slice aa ma ac,tg.take mt,.slice ta mt tc,im⟩⟩ _ 1 _ rfl rfl (OwnRow.keep HG11.out.row ((Since.refl _).alloc _)) (HeapIs.new _ _ _) (fun u hu=>fb_one HX11.out HX11.out u hu) (by rw[HGL.out];unfold maxLen;omega) (by rw[HGL.out];omega) (by have:=HG11.out.since.size;simp only[World.alloc,Array.size_push];omega) ?_;intro v9 w12 ho9 ht9 hn9;obtain⟨va,vc,hv9⟩:=OwnRow.shape ho9;rw[List.length_append,HGL.out,List.length_singleton]at hv9;subst hv9;have hs12:Since w11 (w11.alloc (.cells #[phv,inv,.int .i64 kd,.slice aa ma ac,.slice ta mt tc,.int .i32 im] 57)):=(Since.refl w11).alloc _;have HG12:=Lib.hid (HG11.out.keep hs12);have hbd:=(HX11.out.keep hs12).done (w0:=w) (S:=GS w2 (q+1+1) (.slice ga k gc)) (fun p hp=>(HPH.out.1 p hp).1) (fun p hp=>(HIL.out.1 p hp).1) (Nums.cutTo HXA.out hma6.1) (Nums.cutTo HXO.out hmt6.1) (fun r hr=>(HG4.out.turns r hr));have hg13:=HG12.out.add hbd ho9 ht9 hn9;have b9:=HG12.out.box.turn ht9 (own_not HG12.out.row HG12.out.box (by decide));have s0:=b9.cell 1;have s1:=b9.frozen 1;have s2:=b9.lt;have HG13:=Lib.hid hg13;clear b9 ho9 ht9 hn9 hs12 hbd hg13)
     exact HK9.out (n1-(k+1)) _ _ (by omega) ⟨k+1,_,gl++[⟨phl,phv,il,inv,⟨kd,ar.take ma,.slice aa ma ac,tg.take mt,.slice ta mt tc,im⟩⟩],rfl,by omega,by omega,by rw[List.length_append,HGL.out];rfl,(frRw_mk rfl rfl (sl_cons rfl (sl_cons rfl (sl_cons rfl (sl_cons rfl (sl_nil _)))))),all_add HFW.out ⟨⟨fun p hp=>(HPH.out.1 p hp).2.1,fun p hp=>(HIL.out.1 p hp).2.1,⟨HXB.out.term.kd,fun y hy=>HXB.out.term.ar y (List.mem_of_mem_take hy),fun y hy=>HXB.out.term.tg y (List.mem_of_mem_take hy),HXB.out.term.im⟩⟩,HPH.out.2,fun p hp=>(HPH.out.1 p hp).2.2,HIL.out.2,fun p hp=>(HIL.out.1 p hp).2.2,(by show (ar.take ma).length≤6;rw[List.length_take];omega),(by show (tg.take mt).length≤6;rw[List.length_take];omega)⟩,HG13.out⟩
   ·obtain rfl:k=5:=by omega
    clear h5
    go_wp2_with fail
    exact HQ.out _ _ _ _ (frRw_mk rfl rfl (sl_cons rfl (sl_cons rfl (sl_cons rfl (sl_nil _))))) HFW.out (by omega) HG.out
  ·obtain rfl:k=n1:=by omega
   clear hlt
   go_wp2_with fail
   exact HQ.out _ _ _ _ (frRw_mk rfl rfl (sl_cons rfl (sl_cons rfl (sl_cons rfl (sl_nil _))))) HFW.out (by omega) HG.out
def FewFn (g:FnV):Prop:=(∀ b∈g.blocks,FewBlk b)∧g.blocks.length≤5
def RawQ (w:World) (e:Ending) (w':World):Prop:=∃ g,e=.returned (fv g)∧FnIn w' g∧FnR g∧FewFn g∧Since w w'
set_option maxHeartbeats 8000000 in
set_option maxRecDepth 100000 in
theorem raw25_any (f:FnV) (w:World) (hf:FnIn w f) (hr:FnR f):Calls Tryz.prog 10 #[fv f] w (RawQ w):=by
 obtain⟨p1,b1,v1⟩:=f
 obtain⟨a1,c1,e1,hl1⟩:=RowIn.shape hf
 obtain⟨n1,hn1⟩:∃ n,b1.length=n:=⟨_,rfl⟩
 replace e1:v1=.slice a1 n1 c1:=by rw[←hn1];exact e1
 subst e1
 rw[hn1]at hl1
 unfold fv
 dsimp only
 have HF0:=Lib.hid hf
 have HR:=Lib.hid hr
 have HN1:=Lib.hid (And.intro hn1 hl1)
 clear hf hr hn1 hl1
 go_enter Tryz.func10,Tryz.ntmps10
 go_upto_region 2 with fail
 obtain⟨q,hq⟩:∃ q,w.heap.size=q:=⟨_,rfl⟩
 obtain⟨w2,hw2⟩:∃ w2,(w.alloc (.cells #[.int .i64 p1,.slice a1 n1 c1] 24)).alloc (.cells #[.int .i64 0,.slice none 0 0] 24)=w2:=⟨_,rfl⟩
 have HS2:=Lib.hid (show Since w w2 from by rw[←hw2];exact ((Since.refl w).alloc _).alloc _)
 have HB1:=Lib.hid (show HeapIs w2 q #[.int .i64 p1,.slice a1 n1 c1] 24 from by rw[←hw2,←hq];exact (HeapIs.new w _ _).keep ((Since.refl _).alloc _))
 have HB2:=Lib.hid (show HeapIs w2 (q+1) #[.int .i64 0,.slice none 0 0] 24 from by rw[←hw2,←hq];exact heap_two w _ _ _)
 have HZ2:=Lib.hid (show w2.heap.size=q+1+1 from by rw[←hw2,←hq];show ((w.heap.push _).push _).size=_;rw[Array.size_push,Array.size_push])
 rw[hw2]
 try rw[hq]
 clear hw2
 have hs3:Since w2 (w2.alloc (.cells #[.int .i64 p1,.slice none 0 0] 24)):=(Since.refl w2).alloc _
 have HG3:=Lib.hid (show RawG w w2 (q+1+1) p1 (.slice none 0 0) [] (w2.alloc (.cells #[.int .i64 p1,.slice none 0 0] 24)) from⟨HS2.out,hs3,by rw[HZ2.out];exact Nat.le_refl _,by rw[←HZ2.out];exact HeapIs.new _ _ _,OwnRow.nil _ _ _ _ _,fun b hb=>(by cases hb)⟩)
 clear hs3
 obtain⟨w3,hw3⟩:∃ w3,w2.alloc (.cells #[.int .i64 p1,.slice none 0 0] 24)=w3:=⟨_,rfl⟩
 rw[hw3]at HG3
 try rw[hw3]
 have HQ:=Lib.hid hq
 clear hw3 hq
 go_upto_block 0 with fail
 refine raw_blocks w w2 p1 b1 a1 n1 c1 q _ _ _ (frRw_mk rfl rfl (sl_cons rfl (sl_cons rfl (sl_cons rfl (sl_cons rfl (sl_nil _)))))) HF0.out HN1.out.1 HN1.out.2 HR.out.blocks HS2.out HB1.out HG3.out ?_
 intro a2 wr gv gl hf hfew hl5 hg
 obtain⟨u,ha0,hu⟩:=frameRw_ex hf
 obtain⟨g1,g2,s1,s2,s3,g3⟩:=hf
 have e1:=hu 1 _ s1
 have e2:=hu 2 _ s2
 have e3:=hu 3 _ s3
 rw[e1,e2,e3]at ha0
 subst ha0
 clear hu g1 g2 g3 e1 s1 e2 s2 e3 s3
 have HG:=Lib.hid hg
 have HFW:=Lib.hid hfew
 have HL5:=Lib.hid hl5
 obtain⟨ga,gc,eg,_⟩:=RowIn.shape hg.fn
 obtain⟨k,hk⟩:∃ n,gl.length=n:=⟨_,rfl⟩
 replace eg:gv=.slice ga k gc:=by rw[←hk];exact eg
 subst eg
 have hbg:=hg.box
 have y0:=hbg.cell 0
 have y1:=hbg.cell 1
 have y2:=hbg.lt
 clear hbg hg hfew hk hl5
 have HX2:=Lib.hid (HB2.out.keep HG.out.since)
 go_wp2_with (refine wpList_store_row rfl 24 _ _ rfl (q+1) #[.int .i64 p1,.slice ga k gc] rfl rfl 24 _ HX2.out (by kernel_rfl) rfl (by rw[←Array.all_toList];rfl) ?_;have hz6:=put_block HX2.out #[.int .i64 p1,.slice ga k gc];have ht6:=put_turn (S:=fun r=>r=q+1) (w:=wr) rfl #[.int .i64 p1,.slice ga k gc];generalize wr.setRow (q+1) #[.int .i64 p1,.slice ga k gc]=w7 at *;have HZ6:=Lib.hid (show HeapIs w7 (q+1) #[.int .i64 p1,.slice ga k gc] 24 from hz6);have HT6:=Lib.hid ht6;clear hz6 ht6 y0 y1 y2)
 refine bodyPost_ret (results_cell_row rfl _ _ (q+1) 24 #[.int .i64 p1,.slice ga k gc] (0,0) _ rfl HZ6.out Tryz.underlying24 rfl (by kernel_rfl)) rfl ?_
 obtain⟨g1,g2⟩:=HG.out.out HT6.out (by rw[HQ.out];omega) (by rw[HZ2.out];omega)
 exact⟨⟨p1,gl,.slice ga k gc⟩,rfl,g1,⟨HR.out.params,fun b hb=>(HFW.out b hb).r⟩,⟨HFW.out,HL5.out⟩,g2⟩
end Go.Proofs.YtmhojfpidedjeaaGreatDoor
