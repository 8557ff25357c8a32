/- MkTurn2 MkTurn3 MkFin -/
import Derived.Test.YtmhojfpidedjeaaGreatDoorTq38
namespace Go.Proofs.YtmhojfpidedjeaaGreatDoor
open Go.RowKit
set_option linter.unusedVariables false
set_option maxHeartbeats 8000000 in
set_option maxRecDepth 1000000 in
theorem mk_turn (w:World) (sa:Option Addr) (sl sc:Nat) (l:List Int) (rows:List (Value × List Int)) (m:MkSt) (r mb bb n tb pb db tn d:Nat) (ph:List Int) (x:Int) (a0:Act) (w1:World) (Q0:Exit→Act→World→Prop) (hfr:Fr [(2,.pointer (some ⟨r,0,none⟩)),(3,.pointer (some ⟨mb,0,none⟩)),(4,.int .i64 n),(5,.slice (some ⟨tb,0,none⟩) n n),(7,.slice (some ⟨pb,0,none⟩) n n),(11,.slice (some ⟨db,0,none⟩) n n),(12,.int .i64 tn),(13,.int .i64 0)] a0)
  (hst:MSt w (exD r pb db ph (dnL n d)) mb bb tb (.slice sa sl sc) l n rows m w1) (hn9:1≤n∧n≤9) (hch:Chain rows n) (hd0:tn=0→d=0) (hdn:tn≠0→d=n) (htos:TosOk rows n m.bks) (hlp:Lp x ph n d m)
  (hQ:∀ a1 w2 (d:Nat) (m:MkSt),Fr [(2,.pointer (some ⟨r,0,none⟩)),(3,.pointer (some ⟨mb,0,none⟩)),(4,.int .i64 n),(5,.slice (some ⟨tb,0,none⟩) n n),(7,.slice (some ⟨pb,0,none⟩) n n),(11,.slice (some ⟨db,0,none⟩) n n),(12,.int .i64 tn)] a1→MSt w (exD r pb db ph (dnL n d)) mb bb tb (.slice sa sl sc) l n rows m w2→d=n→TosOk rows n m.bks→Lp x ph n d m→Q0 .normal a1 w2):Code.wp Tryz.prog (mkCode [1,1,1,1,1,1,1,1,1,1,1,0,1,0,0,1,0,0,1]) Q0 a0 w1:=by
 obtain⟨u,ha0,hu⟩:=frame_ex hfr
 obtain⟨g1,g2,s2,s3,s4,s5,s7,s11,s12,s13,g3⟩:=hfr
 have e2:=hu 2 _ s2
 have e3:=hu 3 _ s3
 have e4:=hu 4 _ s4
 have e5:=hu 5 _ s5
 have e7:=hu 7 _ s7
 have e11:=hu 11 _ s11
 have e12:=hu 12 _ s12
 have e13:=hu 13 _ s13
 rw[e2,e3,e4,e5,e7,e11,e12,e13]at ha0
 subst ha0
 clear hu g1 g2 g3 e2 s2 e3 s3 e4 s4 e5 s5 e7 s7 e11 s11 e12 s12 e13 s13
 conv=>arg 2;whnf
 have HQ:=Lib.hid hQ
 have HCH:=Lib.hid hch
 have HDD:=Lib.hid (And.intro hd0 hdn)
 have HTO:=Lib.hid htos
 have HLP:=Lib.hid hlp
 clear hQ hch hd0 hdn htos hlp
 go_wp2_with fail
 refine wp_loop_fr (fun t ac wr=>∃ (b d:Nat) (m:MkSt),t=n-b∧b≤n∧(tn=0→d=b)∧(tn≠0→d=n)∧Fr [(2,.pointer (some ⟨r,0,none⟩)),(3,.pointer (some ⟨mb,0,none⟩)),(4,.int .i64 n),(5,.slice (some ⟨tb,0,none⟩) n n),(7,.slice (some ⟨pb,0,none⟩) n n),(11,.slice (some ⟨db,0,none⟩) n n),(12,.int .i64 tn),(13,.int .i64 b)] ac∧MSt w (exD r pb db ph (dnL n d)) mb bb tb (.slice sa sl sc) l n rows m wr∧TosOk rows n m.bks∧Lp x ph n d m) n ⟨0,d,m,rfl,Nat.zero_le _,HDD.out.1,HDD.out.2,(fr_mk rfl rfl (sl_cons rfl (sl_cons rfl (sl_cons rfl (sl_cons rfl (sl_cons rfl (sl_cons rfl (sl_cons rfl (sl_cons rfl (sl_nil _)))))))))),hst,HTO.out,HLP.out⟩ ?_
 ·clear hst HDD HTO HLP d m
  intro t a1 wr K hJ hK
  have HK9:=Lib.hid hK
  clear hK
  obtain⟨b,d,m,rfl,hbn,hd0,hdn,hf,hst,htos,hlp⟩:=hJ
  obtain⟨u,ha0,hu⟩:=frame_ex hf
  obtain⟨g1,g2,s2,s3,s4,s5,s7,s11,s12,s13,g3⟩:=hf
  have e2:=hu 2 _ s2
  have e3:=hu 3 _ s3
  have e4:=hu 4 _ s4
  have e5:=hu 5 _ s5
  have e7:=hu 7 _ s7
  have e11:=hu 11 _ s11
  have e12:=hu 12 _ s12
  have e13:=hu 13 _ s13
  rw[e2,e3,e4,e5,e7,e11,e12,e13]at ha0
  subst ha0
  clear hu g1 g2 g3 e2 s2 e3 s3 e4 s4 e5 s5 e7 s7 e11 s11 e12 s12 e13 s13
  have HST:=Lib.hid hst
  have HTO:=Lib.hid htos
  have HLP:=Lib.hid hlp
  have HD:=Lib.hid (And.intro hd0 hdn)
  clear htos hlp hd0 hdn
  by_cases hlt:b<n
  ·have hdc:=hst.dnAt.cell b
   rw[List.getElem?_toArray,List.getElem?_map,dnL_at hlt]at hdc
   replace hdc:wr.cell? ⟨db,b,none⟩=some (.bool (decide (b<d))):=hdc
   have hdl:=hst.dnAt.lt
   obtain⟨dbit,hdbit⟩:∃ z,decide (b<d)=z:=⟨_,rfl⟩
   rw[hdbit]at hdc
   have HDB:=Lib.hid hdbit
   clear hdbit hst
   go_upto_block 10 with fail
   refine mk_away w wr (exD r pb db ph (dnL n d)) sa sl sc l rows m r mb bb n tb pb db tn b 0 (some ⟨wr.heap.size,0,none⟩) (!dbit) _ _ _ (fr_mk rfl rfl (sl_cons rfl (sl_cons rfl (sl_cons rfl (sl_cons rfl (sl_cons rfl (sl_cons rfl (sl_cons rfl (sl_cons rfl (sl_cons rfl (sl_cons rfl (sl_cons rfl (sl_nil _))))))))))))) HST.out hn9.2 (AwOk.start wr m.bks n) ?_
   intro a1 w2 va vc aw hf haw hal
   obtain⟨u,ha0,hu⟩:=frame_ex hf
   obtain⟨g1,g2,s2,s3,s4,s5,s7,s11,s12,s13,s14,s15,g3⟩:=hf
   have e2:=hu 2 _ s2
   have e3:=hu 3 _ s3
   have e4:=hu 4 _ s4
   have e5:=hu 5 _ s5
   have e7:=hu 7 _ s7
   have e11:=hu 11 _ s11
   have e12:=hu 12 _ s12
   have e13:=hu 13 _ s13
   have e14:=hu 14 _ s14
   have e15:=hu 15 _ s15
   rw[e2,e3,e4,e5,e7,e11,e12,e13,e14,e15]at ha0
   subst ha0
   clear hu g1 g2 g3 e2 s2 e3 s3 e4 s4 e5 s5 e7 s7 e11 s11 e12 s12 e13 s13 e14 s14 e15 s15
   obtain⟨vb,vcap,cur,hveq,hst2,hne,hcur⟩:=HST.out.away haw (by rw[hal];omega)
   rw[hal]at hveq
   injection hveq with hv1 hv2 hv3
   subst hv1
   subst hv3
   have HST2:=Lib.hid hst2
   have HNE:=Lib.hid hne
   have HAI:=Lib.hid (fun pre=>awIn_of (vb:=vb) (cur:=cur) (b:=b) pre haw hal hcur hlt)
   have HRD:=Lib.hid (ready_of hst2 haw hal hcur hlt HTO.out HCH.out)
   clear haw hal hst2 hne hcur hdc hdl
   go_upto_block 12 with fail
   refine mk_ready r mb n tb pb db tn b d vb vc dbit _ _ _ (fr_mk rfl rfl (sl_cons rfl (sl_cons rfl (sl_cons rfl (sl_cons rfl (sl_cons rfl (sl_cons rfl (sl_cons rfl (sl_cons rfl (sl_cons rfl (sl_cons rfl (sl_cons rfl (sl_nil _))))))))))))) hn9.2 hlt (fun e=>⟨by
    have h1:=of_decide_eq_false (HDB.out.trans e)
    by_cases h:tn=0
    ·exact HD.out.1 h
    ·have:=HD.out.2 h;omega,trivial,trivial⟩) (HST2.out.boxes (bxD db (dnL n d)) (by simp[exD])).1 HRD.out.1 HRD.out.2 ?_
   intro a1 hf
   obtain⟨u,ha0,hu⟩:=frame_ex hf
   obtain⟨g1,g2,s2,s3,s4,s5,s7,s11,s12,s13,s14,s15,g3⟩:=hf
   have e2:=hu 2 _ s2
   have e3:=hu 3 _ s3
   have e4:=hu 4 _ s4
   have e5:=hu 5 _ s5
   have e7:=hu 7 _ s7
   have e11:=hu 11 _ s11
   have e12:=hu 12 _ s12
   have e13:=hu 13 _ s13
   have e14:=hu 14 _ s14
   have e15:=hu 15 _ s15
   rw[e2,e3,e4,e5,e7,e11,e12,e13,e14,e15]at ha0
   subst ha0
   clear hu g1 g2 g3 e2 s2 e3 s3 e4 s4 e5 s5 e7 s7 e11 s11 e12 s12 e13 s13 e14 s14 e15 s15
   clear HRD
   cases dbit
   ·have hdb:d=b:=by
     have h1:=of_decide_eq_false HDB.out
     by_cases h:tn=0
     ·exact HD.out.1 h
     ·have:=HD.out.2 h;omega
    subst hdb
    have htn0:tn=0:=by
     by_cases h:tn=0
     ·exact h
     ·have:=HD.out.2 h;omega
    have HTN:=Lib.hid htn0
    have hbd:=(HST2.out.boxes (bxD db (dnL n d)) (by simp[exD])).1
    have hdl2:db<w2.heap.size:=hbd.lt
    have hdc2:=hbd.cell d
    replace hdc2:w2.cell? ⟨db,d,none⟩=some (.bool false):=by
     refine hdc2.trans ?_
     show ((dnL n d).map Value.bool).toArray[d]? = _
     rw[List.getElem?_toArray,List.getElem?_map,dnL_at hlt,decide_eq_false (by omega)];rfl
    have hdf2:w2.frozen? ⟨db,d,none⟩=false:=hbd.frozen d
    have hst3:=HST2.out.setDx HNE.out d true
    rw[dnL_set]at hst3
    have HST3:=Lib.hid hst3
    have hbx3:=hst3.box
    have hl3:=hbx3.lt
    have hf3:=hbx3.frozen 5
    have hc5:=hbx3.cell 5
    clear hbd hst3 hbx3 htn0
    go_upto_region 43 with fail
    generalize w2.setCell ⟨db,d,none⟩ (.bool true)=w3 at *
    clear hdl2 hdc2 hdf2 HST2
    go_upto_block 14 with fail
    have HPM:=Lib.hid HST3.out.ok.good.params
    have HX4:=Lib.hid (show x≤4∧0≤x from by have h1:=HPM.out;have h2:=HLP.out.params;omega)
    refine mk_liveParams w (exD r pb db ph (dnL n (d+1))++awEx vb cur aw) sa sl sc l rows { m with live:=[],livev:=.slice (some ⟨w3.heap.size,0,none⟩) 0 0 } r mb bb n tb pb db tn d vb vc true _ _ _ (fr_mk rfl rfl (sl_cons rfl (sl_cons rfl (sl_cons rfl (sl_cons rfl (sl_cons rfl (sl_cons rfl (sl_cons rfl (sl_cons rfl (sl_cons rfl (sl_cons rfl (sl_cons rfl (sl_nil _))))))))))))) (by
     have h:=HST3.out.livePut (ys:=[]) (v:=.slice (some ⟨w3.heap.size,0,none⟩) 0 0) (own_none_int w3) ((Turn.refl _ _).alloc _) (fun q hq=>.inr (Nat.le_of_eq (Option.some.inj hq))) (by simp)
     rwa [World.setCell_alloc_past _ mb 5 _ hl3]at h) ⟨HPM.out.1,HPM.out.2.1⟩ HPM.out.2.2 rfl ?_
    intro a1 w4 ys v hf hst4 hy4
    obtain⟨u,ha0,hu⟩:=frame_ex hf
    obtain⟨g1,g2,s2,s3,s4,s5,s7,s11,s12,s13,s14,s15,g3⟩:=hf
    have e2:=hu 2 _ s2
    have e3:=hu 3 _ s3
    have e4:=hu 4 _ s4
    have e5:=hu 5 _ s5
    have e7:=hu 7 _ s7
    have e11:=hu 11 _ s11
    have e12:=hu 12 _ s12
    have e13:=hu 13 _ s13
    have e14:=hu 14 _ s14
    have e15:=hu 15 _ s15
    rw[e2,e3,e4,e5,e7,e11,e12,e13,e14,e15]at ha0
    subst ha0
    clear hu g1 g2 g3 e2 s2 e3 s3 e4 s4 e5 s5 e7 s7 e11 s11 e12 s12 e13 s13 e14 s14 e15 s15
    have HST4:=Lib.hid (show MSt w (exD r pb db ph (dnL n (d+1))++awEx vb cur aw) mb bb tb (.slice sa sl sc) l n rows { m with live:=ys,livev:=v } w4 from hst4)
    have HY4:=Lib.hid hy4
    clear hst4 hy4 HST3 hl3 hf3 hc5
    go_upto_block 16 with fail
    refine mk_live w (exD r pb db ph (dnL n (d+1))++awEx vb cur aw) sa sl sc l rows { m with live:=ys,livev:=v } r mb bb n tb pb db tn d vb vc true (dnL n (d+1)) cur _ _ _ (fr_mk rfl rfl (sl_cons rfl (sl_cons rfl (sl_cons rfl (sl_cons rfl (sl_cons rfl (sl_cons rfl (sl_cons rfl (sl_cons rfl (sl_cons rfl (sl_cons rfl (sl_cons rfl (sl_nil _))))))))))))) HST4.out hlt hn9.2 (by simp[exD,bxD]) (dnL_len _ _) (HAI.out _) (HLP.out.blk HST.out.len (by omega)) (by have:=HY4.out;show ys.length≤10;omega) ?_
    intro a1 w5 ys5 v5 hf hst5 hy5
    obtain⟨u,ha0,hu⟩:=frame_ex hf
    obtain⟨g1,g2,s2,s3,s4,s5,s7,s11,s12,s13,s14,s15,g3⟩:=hf
    have e2:=hu 2 _ s2
    have e3:=hu 3 _ s3
    have e4:=hu 4 _ s4
    have e5:=hu 5 _ s5
    have e7:=hu 7 _ s7
    have e11:=hu 11 _ s11
    have e12:=hu 12 _ s12
    have e13:=hu 13 _ s13
    have e14:=hu 14 _ s14
    have e15:=hu 15 _ s15
    rw[e2,e3,e4,e5,e7,e11,e12,e13,e14,e15]at ha0
    subst ha0
    clear hu g1 g2 g3 e2 s2 e3 s3 e4 s4 e5 s5 e7 s7 e11 s11 e12 s12 e13 s13 e14 s14 e15 s15
    have HST5:=Lib.hid (show MSt w (exD r pb db ph (dnL n (d+1))++awEx vb cur aw) mb bb tb (.slice sa sl sc) l n rows { m with live:=ys5,livev:=v5 } w5 from hst5)
    have HY5:=Lib.hid (show ys5.length≤9004 from by have h1:ys5.length≤ys.length+1000*n:=hy5;have:=HY4.out;omega)
    clear hst5 hy5 HST4 HY4
    go_wp2_with fail
    refine (mk_take HST5.out.ok 7 (by decide) (by have h1:=HLP.out.at_;show m.at_≤100000;omega)).mono ?_
    rintro e w6 ⟨m6,⟨q0,rfl,⟨hq0,hq7⟩,hm6⟩,hok6,hmv6⟩
    have HST6:=Lib.hid (HST5.out.mv hok6 hmv6)
    subst hm6
    obtain⟨q,rfl⟩:=Int.eq_ofNat_of_zero_le hq0
    clear hok6 hmv6 HST5
    go_upto_block 22 with fail
    refine mk_insns w (exD r pb db ph (dnL n (d+1))++awEx vb cur aw) sa sl sc l rows { m with live:=ys5,livev:=v5,at_:=m.at_+1 } r mb bb n tb pb db tn d q _ _ _ (fr_mk rfl rfl (sl_cons rfl (sl_cons rfl (sl_cons rfl (sl_cons rfl (sl_cons rfl (sl_cons rfl (sl_cons rfl (sl_cons rfl (sl_cons rfl (sl_cons rfl (sl_nil _)))))))))))) HST6.out hlt hn9.2 (by omega) (by
     have h1:=HLP.out.at_
     have h2:=HLP.out.next
     have h3:=HLP.out.total
     have h4:=HX4.out
     have h5:=HY5.out
     exact⟨by show m.at_+1≤5000;omega,by show m.next≤5000;omega,by show m.total≤5000;omega,by show ys5.length≤15000;omega⟩) ?_
    intro a1 w7 m7 hf hst7 hmc7
    obtain⟨u,ha0,hu⟩:=frame_ex hf
    obtain⟨g1,g2,s2,s3,s4,s5,s7,s11,s12,s13,g3⟩:=hf
    have e2:=hu 2 _ s2
    have e3:=hu 3 _ s3
    have e4:=hu 4 _ s4
    have e5:=hu 5 _ s5
    have e7:=hu 7 _ s7
    have e11:=hu 11 _ s11
    have e12:=hu 12 _ s12
    have e13:=hu 13 _ s13
    rw[e2,e3,e4,e5,e7,e11,e12,e13]at ha0
    subst ha0
    clear hu g1 g2 g3 e2 s2 e3 s3 e4 s4 e5 s5 e7 s7 e11 s11 e12 s12 e13 s13
    have HST7:=Lib.hid hst7
    have HMC7:=Lib.hid hmc7
    obtain⟨⟨rv,rl⟩,hr,hrm,hrc⟩:=hst7.row hlt
    obtain⟨ra,rc,hrv⟩:=nums_lenI (hst7.tgt.row _ hrm).1
    dsimp only at hrv
    obtain⟨rn,hrn⟩:∃ z,rl.length=z:=⟨_,rfl⟩
    rw[hrn]at hrv
    subst hrv
    have HR:=Lib.hid (And.intro hr hrm)
    have htbl:=hst7.tgt.box.lt
    replace hrc:w7.cell? ⟨tb,d,none⟩=some (.slice ra rn rc):=hrc
    clear hst7 hmc7 hr hrm hrn HST6 hq0 hq7
    go_wp2_with fail
    refine (mk_end HST7.out.ok (by
     have h1:=HLP.out.at_
     have h2:=HLP.out.next
     have h3:=HLP.out.total
     have h4:=HX4.out
     have h5:=HY5.out
     have h6:m7.at_≤m.at_+1+180:=HMC7.out.at_
     have h7:m7.next≤m.next+36:=HMC7.out.next.2
     have h8:m7.total≤m.total+42:=HMC7.out.total
     have h9:m7.live.length≤ys5.length+84:=HMC7.out.live
     exact⟨by omega,by omega,by omega,by omega⟩) d (by rw[HST7.out.len];exact hlt) (.slice ra rn rc) rl (HST7.out.tgt.row _ HR.out.2) (fun y hy=>by rw[HST7.out.len];exact HST7.out.inr _ HR.out.2 y hy) (by have:=HST7.out.few _ HR.out.2;dsimp only at this;omega)).mono ?_
    rintro e w8 ⟨m8,t8,rfl,hok8,hmv8,hto8,htg8⟩
    rw[HST7.out.len]at htg8
    have hst8:=HST7.out.step hok8 ⟨hmv8.turn,hmv8.new⟩ hmv8.len
    have HST9:=Lib.hid (hst8.beside (ex':=exD r pb db ph (dnL n (d+1))) (T:=fun _=>False) (Turn.refl _ _) (fun q _ e=>e.elim) fun z hz=>⟨(hst8.boxes z (List.mem_append_left _ hz)).1,.inl ⟨z,List.mem_append_left _ hz,rfl⟩⟩)
    have HLP9:=Lib.hid (HLP.out.more (m1:={ m with live:=ys5,livev:=v5,at_:=m.at_+1 }) ⟨rfl,rfl,rfl,rfl⟩ HY5.out HMC7.out hmv8 htg8)
    have HTO9:=Lib.hid (TosOk.more (m1:={ m with live:=ys5,livev:=v5,at_:=m.at_+1 }) HTO.out HMC7.out hmv8 HR.out.1 hto8)
    clear hok8 hmv8 hto8 htg8 hst8 hrc htbl HST7
    go_wp2_with fail
    exact HK9.out (n-(d+1)) _ _ (by omega) ⟨d+1,d+1,m8,rfl,by omega,fun _=>rfl,fun h=>absurd HTN.out h,(fr_mk rfl rfl (sl_cons rfl (sl_cons rfl (sl_cons rfl (sl_cons rfl (sl_cons rfl (sl_cons rfl (sl_cons rfl (sl_cons rfl (sl_nil _)))))))))),HST9.out,HTO9.out,HLP9.out⟩
   ·have hdn2:d=n:=by
     have h1:=of_decide_eq_true HDB.out
     by_cases h:tn=0
     ·have:=HD.out.1 h;omega
     ·exact HD.out.2 h
    have htn:tn≠0:=fun h=>by
     have h1:=of_decide_eq_true HDB.out
     have:=HD.out.1 h;omega
    have HTN:=Lib.hid htn
    have HDN:=Lib.hid hdn2
    have HST3:=Lib.hid (HST2.out.beside (ex':=exD r pb db ph (dnL n d)) (T:=fun _=>False) (Turn.refl _ _) (fun q _ e=>e.elim) fun z hz=>⟨(HST2.out.boxes z (List.mem_append_left _ hz)).1,.inl ⟨z,List.mem_append_left _ hz,rfl⟩⟩)
    clear hdn2 htn
    go_wp2_with fail
    exact HK9.out (n-(b+1)) _ _ (by omega) ⟨b+1,d,m,rfl,by omega,fun h=>absurd h HTN.out,HD.out.2,(fr_mk rfl rfl (sl_cons rfl (sl_cons rfl (sl_cons rfl (sl_cons rfl (sl_cons rfl (sl_cons rfl (sl_cons rfl (sl_cons rfl (sl_nil _)))))))))),HST3.out,HTO.out,HLP.out⟩
  ·obtain rfl:n=b:=by omega
   clear hst
   go_wp2_with fail
   exact HQ.out _ _ d m (fr_mk rfl rfl (sl_cons rfl (sl_cons rfl (sl_cons rfl (sl_cons rfl (sl_cons rfl (sl_cons rfl (sl_cons rfl (sl_nil _))))))))) HST.out (by
    by_cases h:tn=0
    ·exact HD.out.1 h
    ·exact HD.out.2 h) HTO.out HLP.out
set_option maxHeartbeats 8000000 in
set_option maxRecDepth 1000000 in
theorem mk_turns (w:World) (sa:Option Addr) (sl sc:Nat) (l:List Int) (rows:List (Value × List Int)) (m:MkSt) (r mb bb n tb pb db:Nat) (ph:List Int) (x:Int) (a0:Act) (w1:World) (Q0:Exit→Act→World→Prop) (hfr:Fr [(2,.pointer (some ⟨r,0,none⟩)),(3,.pointer (some ⟨mb,0,none⟩)),(4,.int .i64 n),(5,.slice (some ⟨tb,0,none⟩) n n),(7,.slice (some ⟨pb,0,none⟩) n n),(11,.slice (some ⟨db,0,none⟩) n n),(12,.int .i64 0)] a0)
  (hst:MSt w (exD r pb db ph (dnL n 0)) mb bb tb (.slice sa sl sc) l n rows m w1) (hn9:1≤n∧n≤9) (hch:Chain rows n) (htos:TosOk rows n m.bks) (hlp:Lp x ph n 0 m)
  (hQ:∀ a1 w2 (m:MkSt),Fr [(2,.pointer (some ⟨r,0,none⟩)),(3,.pointer (some ⟨mb,0,none⟩)),(4,.int .i64 n),(5,.slice (some ⟨tb,0,none⟩) n n),(7,.slice (some ⟨pb,0,none⟩) n n),(11,.slice (some ⟨db,0,none⟩) n n)] a1→MSt w (exD r pb db ph (dnL n n)) mb bb tb (.slice sa sl sc) l n rows m w2→TosOk rows n m.bks→Lp x ph n n m→Q0 .normal a1 w2):Code.wp Tryz.prog (mkCode [1,1,1,1,1,1,1,1,1,1,1,0,1]) Q0 a0 w1:=by
 obtain⟨u,ha0,hu⟩:=frame_ex hfr
 obtain⟨g1,g2,s2,s3,s4,s5,s7,s11,s12,g3⟩:=hfr
 have e2:=hu 2 _ s2
 have e3:=hu 3 _ s3
 have e4:=hu 4 _ s4
 have e5:=hu 5 _ s5
 have e7:=hu 7 _ s7
 have e11:=hu 11 _ s11
 have e12:=hu 12 _ s12
 rw[e2,e3,e4,e5,e7,e11,e12]at ha0
 subst ha0
 clear hu g1 g2 g3 e2 s2 e3 s3 e4 s4 e5 s5 e7 s7 e11 s11 e12 s12
 conv=>arg 2;whnf
 have HQ:=Lib.hid hQ
 have HCH:=Lib.hid hch
 have HTO:=Lib.hid htos
 have HLP:=Lib.hid hlp
 clear hQ hch htos hlp
 go_wp2_with fail
 refine wp_loop_fr (fun t ac wr=>∃ (tn d:Nat) (m:MkSt),t=n-tn∧tn≤n∧(tn=0→d=0)∧(tn≠0→d=n)∧Fr [(2,.pointer (some ⟨r,0,none⟩)),(3,.pointer (some ⟨mb,0,none⟩)),(4,.int .i64 n),(5,.slice (some ⟨tb,0,none⟩) n n),(7,.slice (some ⟨pb,0,none⟩) n n),(11,.slice (some ⟨db,0,none⟩) n n),(12,.int .i64 tn)] ac∧MSt w (exD r pb db ph (dnL n d)) mb bb tb (.slice sa sl sc) l n rows m wr∧TosOk rows n m.bks∧Lp x ph n d m) n ⟨0,0,m,rfl,Nat.zero_le _,fun _=>rfl,fun h=>absurd rfl h,(fr_mk rfl rfl (sl_cons rfl (sl_cons rfl (sl_cons rfl (sl_cons rfl (sl_cons rfl (sl_cons rfl (sl_cons rfl (sl_nil _))))))))),hst,HTO.out,HLP.out⟩ ?_
 ·clear hst HTO HLP m
  intro t a1 wr K hJ hK
  have HK9:=Lib.hid hK
  clear hK
  obtain⟨tn,d,m,rfl,hbn,hd0,hdn,hf,hst,htos,hlp⟩:=hJ
  obtain⟨u,ha0,hu⟩:=frame_ex hf
  obtain⟨g1,g2,s2,s3,s4,s5,s7,s11,s12,g3⟩:=hf
  have e2:=hu 2 _ s2
  have e3:=hu 3 _ s3
  have e4:=hu 4 _ s4
  have e5:=hu 5 _ s5
  have e7:=hu 7 _ s7
  have e11:=hu 11 _ s11
  have e12:=hu 12 _ s12
  rw[e2,e3,e4,e5,e7,e11,e12]at ha0
  subst ha0
  clear hu g1 g2 g3 e2 s2 e3 s3 e4 s4 e5 s5 e7 s7 e11 s11 e12 s12
  have HST:=Lib.hid hst
  have HTO:=Lib.hid htos
  have HLP:=Lib.hid hlp
  have HD:=Lib.hid (And.intro hd0 hdn)
  clear htos hlp hd0 hdn hst
  by_cases hlt:tn<n
  ·go_upto_block 8 with fail
   refine mk_turn w sa sl sc l rows m r mb bb n tb pb db tn d ph x _ _ _ (fr_mk rfl rfl (sl_cons rfl (sl_cons rfl (sl_cons rfl (sl_cons rfl (sl_cons rfl (sl_cons rfl (sl_cons rfl (sl_cons rfl (sl_nil _)))))))))) HST.out hn9 HCH.out HD.out.1 HD.out.2 HTO.out HLP.out ?_
   intro a1 w2 d2 m2 hf hst2 hd2 hto2 hlp2
   obtain⟨u,ha0,hu⟩:=frame_ex hf
   obtain⟨g1,g2,s2,s3,s4,s5,s7,s11,s12,g3⟩:=hf
   have e2:=hu 2 _ s2
   have e3:=hu 3 _ s3
   have e4:=hu 4 _ s4
   have e5:=hu 5 _ s5
   have e7:=hu 7 _ s7
   have e11:=hu 11 _ s11
   have e12:=hu 12 _ s12
   rw[e2,e3,e4,e5,e7,e11,e12]at ha0
   subst ha0
   clear hu g1 g2 g3 e2 s2 e3 s3 e4 s4 e5 s5 e7 s7 e11 s11 e12 s12
   have HST2:=Lib.hid hst2
   have HTO2:=Lib.hid hto2
   have HLP2:=Lib.hid hlp2
   have HD2:=Lib.hid hd2
   clear hst2 hto2 hlp2 hd2
   go_wp2_with fail
   exact HK9.out (n-(tn+1)) _ _ (by omega) ⟨tn+1,d2,m2,rfl,by omega,fun h=>absurd h (by omega),fun _=>HD2.out,(fr_mk rfl rfl (sl_cons rfl (sl_cons rfl (sl_cons rfl (sl_cons rfl (sl_cons rfl (sl_cons rfl (sl_cons rfl (sl_nil _))))))))),HST2.out,HTO2.out,HLP2.out⟩
  ·obtain rfl:n=tn:=by omega
   go_wp2_with fail
   exact HQ.out _ _ m (fr_mk rfl rfl (sl_cons rfl (sl_cons rfl (sl_cons rfl (sl_cons rfl (sl_cons rfl (sl_cons rfl (sl_nil _)))))))) (by have h:=HST.out;rwa [HD.out.2 (by omega)]at h) HTO.out (by have h:=HLP.out;rwa [HD.out.2 (by omega)]at h)
structure FinS (x:Int) (ph:List Int) (n c:Nat) (m:MkSt):Prop where
 phs:ph.length=n∧(∀ v∈ph,0≤v∧v≤3)∧ph[0]? = some 0
 cnt:∀ (j:Nat) (k:FBlk) (v:Int),m.bks[j]? = some k→ph[j]? = some v→(k.phis.length:Int)=v
 phi:∀ k∈m.bks,∀ p∈k.phis,(0≤p.dst∧p.dst<700)∧p.ins.length≤9∧∀ y∈p.ins,(0≤y.1∧y.1<(n:Int))∧0≤y.2∧y.2<700
 at_:m.at_≤2000+3*c
 next:m.next≤391+c
 params:m.params=x
 total:m.total≤450+c
 live:m.live.length≤10000+2*c
 terms:∀ k∈m.bks,TermGood 700 n k.term
section
variable {x : Int} {ph:List Int} {n c d:Nat} {m m':MkSt} {w w':World} {v : Value} {xs:List Int} {bx:List Bx}
theorem FinS.start (h:Lp x ph n n m) (hl:m.bks.length=n) (hn:n≤9) (hx:x≤4):FinS x ph n 0 m:=by
 have h1:=h.at_
 have h2:=h.next
 have h3:=h.total
 have h4:=h.live
 refine⟨⟨h.phs.len,h.phs.few,h.phs.zero⟩,fun j k v hk hv=>h.phs.cnt j k v ?_ hk hv,fun k hk p hp=>?_,by omega,by omega,h.params,by omega,by omega,fun k hk=>?_⟩
 ·have:=(List.getElem?_eq_some_iff.1 hk).1;omega
 ·obtain⟨a1,a2⟩:=h.phs.phi k hk p hp
  rw[a2]
  exact⟨⟨a1.1,by omega⟩,by simp,fun y hy=>by cases hy⟩
 ·obtain⟨j,hj⟩:=List.getElem?_of_mem hk
  exact (h.terms j k (by have:=(List.getElem?_eq_some_iff.1 hj).1;omega) hj).mono (by omega)
theorem FinS.mv {a i e:Nat} (h:FinS x ph n c m) (hm:MvC m m' a i e) (ha:a≤3*d) (hi:i≤d) (he:e≤d):FinS x ph n (c+d) m':=by
 have hs:∀ k'∈m'.bks,∃ k∈m.bks,k'.phis=k.phis∧k'.term=k.term:=fun k' hk'=>by
  obtain⟨j,hj⟩:=List.getElem?_of_mem hk'
  obtain⟨k,h1,h2⟩:=hm.at hj
  exact⟨k,List.mem_of_getElem? h1,h2⟩
 refine⟨h.phs,fun j k v hk hv=>?_,fun k hk p hp=>?_,by have:=h.at_;have:=hm.at_;omega,by have:=h.next;have:=hm.next.2;omega,hm.same.1.trans h.params,by have:=h.total;have:=hm.total;omega,by have:=h.live;have:=hm.live;omega,fun k hk=>?_⟩
 ·obtain⟨k0,h1,h2,_⟩:=hm.at hk
  rw[h2];exact h.cnt j k0 v h1 hv
 ·obtain⟨k0,h1,h2,_⟩:=hs k hk
  rw[h2]at hp;exact h.phi k0 h1 p hp
 ·obtain⟨k0,h1,_,h2⟩:=hs k hk
  rw[h2];exact h.terms k0 h1
theorem FinS.few (h:FinS x ph n c m) (hl:m.bks.length=n) (hn:n≤9) (hc:c≤300) (hg:∀ b∈m.bks,∀ y∈b.ins,InsGood m.next y):FnFew 700 m.bks:=by
 refine⟨by omega,fun b hb=>⟨?_,fun p hp=>⟨(h.phi b hb p hp).1,by have:=(h.phi b hb p hp).2.1;omega⟩⟩,fun b hb=>⟨?_,fun y hy=>(hg b hb y hy).mono (by have:=h.next;omega)⟩⟩
 ·obtain⟨j,hj⟩:=List.getElem?_of_mem hb
  obtain⟨v,hv⟩:∃ v,ph[j]? = some v:=⟨_,List.getElem?_eq_getElem (by rw[h.phs.1,←hl];exact (List.getElem?_eq_some_iff.1 hj).1)⟩
  have h1:=h.cnt j b v hj hv
  have h2:=h.phs.2.1 v (List.mem_of_getElem? hv)
  omega
 ·have h1:=ins_le_total hb
  have h2:=h.total
  omega
theorem map_set_same {α β:Type} {f : α→β} {l : List α} {b : Nat} {k k':α} (hb:l[b]? = some k) (hf:f k'=f k):(l.set b k').map f=l.map f:=by
 rw[List.map_set,hf]
 apply List.ext_getElem?
 intro t
 rw[List.getElem?_set]
 split
 ·rename_i e
  subst e
  rw[if_pos (by rw[List.length_map];exact (List.getElem?_eq_some_iff.1 hb).1),List.getElem?_map,hb];rfl
 ·rfl
theorem FinS.setIn {b i:Nat} {k : FBlk} {p : FPhi} {ins:List (Int × Int)} {iv:Value} (h:FinS x ph n c m) (hb:m.bks[b]? = some k) (hi:k.phis[i]? = some p) (hl:ins.length≤9) (hin:∀ y∈ins,(0≤y.1∧y.1<(n:Int))∧0≤y.2∧y.2<700) :
  FinS x ph n c { m with bks:=m.bks.set b { k with phis:=k.phis.set i { p with ins:=ins,inv:=iv } } }:=by
 have hkm:=List.mem_of_getElem? hb
 refine⟨h.phs,fun j k2 v hk hv=>?_,fun k2 hk q hq=>?_,h.at_,h.next,h.params,?_,h.live,fun k2 hk=>?_⟩
 ·rcases getElem?_set_cases hk with ⟨rfl,rfl⟩|⟨_,h2⟩
  ·have:=h.cnt _ k v hb hv
   simpa using this
  ·exact h.cnt j k2 v h2 hv
 ·rcases mem_set_idx hk with rfl|⟨j,_,hj⟩
  ·rcases List.mem_or_eq_of_mem_set hq with hq|rfl
   ·exact h.phi k hkm q hq
   ·exact⟨(h.phi k hkm p (List.mem_of_getElem? hi)).1,hl,hin⟩
  ·exact h.phi k2 (List.mem_of_getElem? hj) q hq
 ·show MkSt.total _≤_
  unfold MkSt.total
  dsimp only
  rw[map_set_same (f:=fun b=>b.ins.length) (k':={ k with phis:=k.phis.set i { p with ins:=ins,inv:=iv } }) hb rfl]
  exact h.total
 ·rcases mem_set_idx hk with rfl|⟨j,_,hj⟩
  ·exact h.terms k hkm
  ·exact h.terms k2 (List.mem_of_getElem? hj)
def BV (v:Value) (xs:List Int) (bx:List Bx):Prop:=
 (v=.slice none 0 0∧xs=[]∧bx=[])∨∃ g cap cur,v=.slice (some ⟨g,0,none⟩) xs.length cap∧bx=[⟨g,cur,3⟩]∧∀ (j:Nat) (y:Int),xs[j]? = some y→cur[j]? = some (.int .i64 y)
theorem bv_of {base:Nat} (h:w.ownsRow base 3 1 v xs.length (xs.map (Value.int .i64))):∃ bx,BV v xs bx∧∀ x∈bx,(HeapIs w x.q x.cs x.ty∧base≤x.q)∧x.ty=3:=by
 obtain⟨hx0,⟨hv,hn⟩|⟨g,cap,cur,hv,hb,hg,hnc,hcm,hcs,htake⟩⟩:=h
 ·exact⟨[],.inl ⟨hv,List.length_eq_zero_iff.1 hn,rfl⟩,fun x hx=>by cases hx⟩
 ·refine⟨[⟨g,cur,3⟩],.inr ⟨g,cap,cur,hv,rfl,fun j y hj=>?_⟩,fun x hx=>?_⟩
  ·have h1:=congrArg (fun l=>l[j]?) htake
   have ha:=(List.getElem?_eq_some_iff.1 hj).1
   simp only[List.getElem?_map,hj,Option.map_some,List.getElem?_take,Nat.mul_one,if_pos ha]at h1
   rw[←Array.getElem?_toList];exact h1
  ·rw[List.mem_singleton.1 hx];exact⟨⟨hg,hb⟩,rfl⟩
theorem BV.cell (h:BV v xs bx) (hb:∀ x∈bx,HeapIs w x.q x.cs x.ty) {j : Nat} {y : Int} (hj:xs[j]? = some y):∃ g cap,v=.slice (some ⟨g,0,none⟩) xs.length cap∧w.cell? ⟨g,j,none⟩=some (.int .i64 y)∧g<w.heap.size:=by
 rcases h with ⟨_,rfl,_⟩|⟨g,cap,cur,hv,rfl,hc⟩
 ·cases hj
 ·have h1:=hb _ (List.mem_singleton.2 rfl)
  exact⟨g,cap,hv,(h1.cell j).trans (hc j y hj),h1.lt⟩
theorem BV.own (h:BV v xs bx) {q : Nat} (hq:v.ownBlock=some q):CE bx q:=by
 rcases h with ⟨rfl,_,_⟩|⟨g,cap,cur,rfl,rfl,hc⟩
 ·cases hq
 ·exact⟨_,List.mem_singleton.2 rfl,Option.some.inj hq⟩
end
end Go.Proofs.YtmhojfpidedjeaaGreatDoor
