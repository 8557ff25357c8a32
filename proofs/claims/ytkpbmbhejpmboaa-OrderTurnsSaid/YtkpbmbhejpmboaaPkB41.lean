/- jacquardref07.Of: all blocks. jacquardref07.Of: the function. jacquardref07.Made: machine code of plain numbers. jacquardref12.Made: a right program of plain numbers. jacquardlaw17.seed: at most three hundred numbers. -/
import Derived.Test.YtkpbmbhejpmboaaPkB05
import Derived.Test.YtkpbmbhejpmboaaPkB13
import Derived.Test.YtkpbmbhejpmboaaPkB39
import Derived.Test.YtkpbmbhejpmboaaPkB40
namespace Go.Proofs.Ytkpbmbhejpmboaa
open Go.RowKit
set_option linter.unusedVariables false
set_option maxHeartbeats 4000000 in
set_option maxRecDepth 1000000 in
theorem of_blocks (w0:World) (sv:Value) (l:List Int) (params:Int) (fb:List FBlk) (xb rb kb ob FB foff n fbc:Nat) (a0:Act) (w1:World) (Q0:Exit→Act→World→Prop) (hfr:FrO [(2,.pointer (some ⟨xb,0,none⟩)),(4,.pointer (some ⟨rb,0,none⟩)),(5,.pointer (some ⟨kb,0,none⟩)),(6,.pointer (some ⟨ob,0,none⟩)),(7,.int .i64 (0:Nat))] a0)
  (hfn:FnIn w0 ⟨params,fb,.slice (some ⟨FB,foff,none⟩) n fbc⟩) (hfl:∀ k∈fb,(∀ x∈k.ins,∀ q,x.av.ownBlock=some q→q<w0.heap.size)∧(∀ q,k.term.argsv.ownBlock=some q→q<w0.heap.size)∧∀ q,k.term.tov.ownBlock=some q→q<w0.heap.size) (hmf:MadeF ⟨params,fb,.slice (some ⟨FB,foff,none⟩) n fbc⟩) (hnn:fb.length=n) (hn9:1≤n∧n≤9)
  (hsv:Ints w0 sv l∧∀ q,sv.ownBlock=some q→q<w0.heap.size) (hst:OfS w0 xb ob rb kb n params (.slice (some ⟨FB,foff,none⟩) n fbc) sv fb 0 [] (.slice none 0 0) w1)
  (hQ:∀ a1 w2 bks bkv,FrO [(2,.pointer (some ⟨xb,0,none⟩)),(4,.pointer (some ⟨rb,0,none⟩)),(5,.pointer (some ⟨kb,0,none⟩)),(6,.pointer (some ⟨ob,0,none⟩))] a1→OfS w0 xb ob rb kb n params (.slice (some ⟨FB,foff,none⟩) n fbc) sv fb n bks bkv w2→Q0 .normal a1 w2):Code.wp Try.prog (OCode [1,1,1,0,1]) Q0 a0 w1:=by
 obtain⟨u,ha0,hu⟩:=frameO_ex hfr
 obtain⟨g1,g2,s2,s4,s5,s6,s7,g3⟩:=hfr
 have e2:=hu 2 _ s2
 have e4:=hu 4 _ s4
 have e5:=hu 5 _ s5
 have e6:=hu 6 _ s6
 have e7:=hu 7 _ s7
 rw[e2,e4,e5,e6,e7]at ha0
 subst ha0
 clear hu g1 g2 g3 e2 s2 e4 s4 e5 s5 e6 s6 e7 s7
 conv=>arg 2;whnf
 have HQ:=Lib.hid hQ
 have HFN:=Lib.hid hfn
 have HFL:=Lib.hid hfl
 have HMF:=Lib.hid hmf
 have HSV:=Lib.hid hsv
 have HNN:=Lib.hid hnn
 clear hQ hfn hfl hmf hsv hnn
 go_wp2_with fail
 refine wp_loop_fr (fun t ac wr=>∃ (b:Nat) (bks:List MBlkV) (bkv:Value),t=n-b∧b≤n∧FrO [(2,.pointer (some ⟨xb,0,none⟩)),(4,.pointer (some ⟨rb,0,none⟩)),(5,.pointer (some ⟨kb,0,none⟩)),(6,.pointer (some ⟨ob,0,none⟩)),(7,.int .i64 b)] ac∧OfS w0 xb ob rb kb n params (.slice (some ⟨FB,foff,none⟩) n fbc) sv fb b bks bkv wr) n ⟨0,[],.slice none 0 0,rfl,Nat.zero_le _,(frO_mk rfl rfl (sl_cons rfl (sl_cons rfl (sl_cons rfl (sl_cons rfl (sl_cons rfl (sl_nil _))))))),hst⟩ ?_
 ·clear hst
  intro t a1 wr K hJ hK
  have HK9:=Lib.hid hK
  clear hK
  obtain⟨b,bks,bkv,rfl,hbn,hf,hst⟩:=hJ
  obtain⟨u,ha0,hu⟩:=frameO_ex hf
  obtain⟨g1,g2,s2,s4,s5,s6,s7,g3⟩:=hf
  have e2:=hu 2 _ s2
  have e4:=hu 4 _ s4
  have e5:=hu 5 _ s5
  have e6:=hu 6 _ s6
  have e7:=hu 7 _ s7
  rw[e2,e4,e5,e6,e7]at ha0
  subst ha0
  clear hu g1 g2 g3 e2 s2 e4 s4 e5 s5 e6 s6 e7 s7
  have HST:=Lib.hid hst
  have hx1:wr.cell? ⟨xb,1,none⟩=some (.slice (some ⟨FB,foff,none⟩) n fbc):=hst.box.cell 1
  have hxl:=hst.box.lt
  clear hst
  by_cases hlt:b<n
  ·obtain⟨k,hk⟩:∃ k,fb[b]? = some k:=⟨_,List.getElem?_eq_getElem (by rw[HNN.out];exact hlt)⟩
   have hkm:=List.mem_of_getElem? hk
   have HK:=Lib.hid hk
   have HKP:=Lib.hid (show k.phis.length≤3∧∀ p∈k.phis,(0≤p.dst∧p.dst<700)∧p.ins.length≤9∧∀ y∈p.ins,(0≤y.1∧y.1<(n:Int))∧0≤y.2∧y.2<700 from by
    have h1:=HMF.out.phis k hkm
    rw[show (⟨params,fb,.slice (some ⟨FB,foff,none⟩) n fbc⟩:FnV).blocks.length=n from HNN.out]at h1
    exact h1)
   have HKT:=Lib.hid (show TermGood 700 n k.term from by
    have h1:=HMF.out.terms k hkm
    rw[show (⟨params,fb,.slice (some ⟨FB,foff,none⟩) n fbc⟩:FnV).blocks.length=n from HNN.out]at h1
    exact h1)
   have HKI:=Lib.hid (HMF.out.ins k hkm)
   have HKL:=Lib.hid (HFL.out k hkm)
   have hsum:=finsSum_succ hk
   have htot:finsSum fb≤700:=HMF.out.total
   have htk:=finsSum_take fb (b+1)
   have HCT:=Lib.hid (show finsSum (fb.take b)+k.ins.length≤700 from by omega)
   clear hk hkm hsum htot htk
   go_upto_block 2 with fail
   obtain⟨nb,hnb⟩:∃ z,z=wr.heap.size:=⟨_,rfl⟩
   rw[←hnb]
   have HNB:=Lib.hid hnb
   refine of_phis w0 wr params fb k xb rb kb ob nb FB foff n fbc b _ _ _ (frO_mk rfl rfl (sl_cons rfl (sl_cons rfl (sl_cons rfl (sl_cons rfl (sl_cons rfl (sl_cons rfl (sl_cons rfl (sl_nil _))))))))) HFN.out HK.out hn9.2 hlt HST.out.old HST.out.box HKP.out.1 (fun p hp=>(HKP.out.2 p hp).2.1) ⟨by rw[hnb];exact HeapIs.new _ _ _,OwnRow.nil _ _ _ _ _,(fun p hp=>by cases hp),rfl,(Since.refl _).alloc _,Nat.le_of_eq hnb.symm⟩ ?_
   clear hnb hx1 hxl
   intro a1 w2 phs phv hf hP
   obtain⟨u,ha0,hu⟩:=frameO_ex hf
   obtain⟨g1,g2,s2,s4,s5,s6,s7,s8,g3⟩:=hf
   have e2:=hu 2 _ s2
   have e4:=hu 4 _ s4
   have e5:=hu 5 _ s5
   have e6:=hu 6 _ s6
   have e7:=hu 7 _ s7
   have e8:=hu 8 _ s8
   rw[e2,e4,e5,e6,e7,e8]at ha0
   subst ha0
   clear hu g1 g2 g3 e2 s2 e4 s4 e5 s5 e6 s6 e7 s7 e8 s8
   have HP:=Lib.hid hP
   have HS2:=Lib.hid (HST.out.keep hP.old)
   obtain⟨at_,next,lvx,hkb,hat,hn0,hn1⟩:=HS2.out.mkr
   have hkl:=hkb.lt
   have hkf:=hkb.frozen
   have hk3:=hkb.cell 3
   have HKB:=Lib.hid hkb
   have HCN:=Lib.hid (And.intro hat (And.intro hn0 hn1))
   clear hP hkb hat hn0 hn1
   go_upto_block 4 with fail
   obtain⟨w3,hw3⟩:∃ z,z=w2.setCell ⟨kb,3,none⟩ (.slice none 0 0):=⟨_,rfl⟩
   have t3:Turn (fun q=>q=kb) w2 w3:=by rw[hw3];exact (Turn.refl (fun q=>q=kb) w2).setCell (p:=⟨kb,3,none⟩) rfl _
   have hm3:HeapIs w3 kb #[sv,.int .i64 at_,.int .i64 next,.slice none 0 0] 173:=by rw[hw3];exact HKB.out.set 3 _
   rw[←hw3]
   have hlow:=HS2.out.low
   have hold3:Since w0 w3:=t3.toSince HS2.out.old fun q hq e=>by omega
   have hnbl:w0.heap.size≤nb:=by rw[HNB.out];exact HST.out.old.size
   have hkne:¬ (kb=ob)∧¬ (kb=rb)∧¬ (kb=nb)∧¬ bkv.ownBlock=some kb:=⟨heap_ne HKB.out HS2.out.out (by decide),heap_ne HKB.out HS2.out.res (by decide),heap_ne HKB.out HP.out.box (by decide),own_not HS2.out.row HKB.out (by decide)⟩
   have hClo:∀ q,OfC ob rb nb bkv q→w0.heap.size≤q∧q<w2.heap.size:=by
    rintro q (e|e|e|e)
    ·rw[e];exact⟨hlow.2.1,HS2.out.out.lt⟩
    ·rw[e];exact⟨hlow.2.2.1,HS2.out.res.lt⟩
    ·rw[e];exact⟨hnbl,HP.out.box.lt⟩
    ·exact World.ownsRow.lt (show w2.ownsRow _ _ _ _ _ _ from HS2.out.row) q e
   have hok3:K7Ok (OfC ob rb nb bkv) kb sv l ⟨at_,next,[],.slice none 0 0,w0.heap.size⟩ w3:=by
    refine⟨hm3,⟨HSV.out.1.keep hold3,fun q hq=>⟨fun e=>?_,by have:=HSV.out.2 q hq;have:=hold3.size;omega⟩⟩,OwnRow.nil _ _ _ _ _,fun x hx=>(by cases hx),fun x hx=>(by cases hx),by have:=hold3.size;exact this,fun x hx=>(by cases hx),fun q hq=>⟨by have:=(hClo q hq).2;have:=t3.size;omega,fun e=>?_⟩⟩
    ·have h1:=HSV.out.2 q hq
     rcases e with (e|e)|e
     ·omega
     ·cases e
     ·have:=(hClo q e).1;omega
    ·rcases e with e|e
     ·subst e
      rcases hq with e|e|e|e
      ·exact hkne.1 e
      ·exact hkne.2.1 e
      ·exact hkne.2.2.1 e
      ·exact hkne.2.2.2 e
     ·cases e
   have hlo3:(∀ q,Own7 kb ⟨at_,next,[],.slice none 0 0,w0.heap.size⟩ q→w0.heap.size≤q)∧∀ q,OfC ob rb nb bkv q→w0.heap.size≤q:=⟨(by
    rintro q (e|e)
    ·rw[e];exact hlow.1
    ·cases e),fun q hq=>(hClo q hq).1⟩
   have hxk:¬ xb=kb:=heap_ne HS2.out.box HKB.out (by decide)
   have hxb3:HeapIs w3 xb #[.int .i64 params,.slice (some ⟨FB,foff,none⟩) n fbc] 120∧¬ Own7 kb ⟨at_,next,[],.slice none 0 0,w0.heap.size⟩ xb:=⟨HS2.out.box.turn t3 hxk,by
    rintro (e|e)
    ·exact hxk e
    ·cases e⟩
   have HOLD3:=Lib.hid hold3
   have HLO3:=Lib.hid hlo3
   have HXB3:=Lib.hid hxb3
   have T3:=Lib.hid t3
   have h4c:=HCN.out
   have h4t:=HCT.out
   clear hkl hkf hk3 hw3 t3 hm3 hlow hnbl hkne hClo hxk
   refine of_ins w0 w3 (OfC ob rb nb bkv) sv l ⟨at_,next,[],.slice none 0 0,w0.heap.size⟩ params fb k xb rb kb ob nb FB foff n fbc b _ _ _ (frO_mk rfl rfl (sl_cons rfl (sl_cons rfl (sl_cons rfl (sl_cons rfl (sl_cons rfl (sl_cons rfl (sl_cons rfl (sl_nil _))))))))) HFN.out ⟨HKL.out.1,trivial⟩ HK.out hn9.2 hlt hold3 hxb3 hlo3 HKI.out (by omega) (by show at_+_≤_;omega) (by show 0≤next∧next+_≤_;omega) rfl hok3 (Mv7.refl _ _ _) ?_
   clear hold3 hlo3 hxb3 hok3
   intro a1 w4 m4 hf hok4 hmv4
   obtain⟨u,ha0,hu⟩:=frameO_ex hf
   obtain⟨g1,g2,s2,s4,s5,s6,s7,s8,g3⟩:=hf
   have e2:=hu 2 _ s2
   have e4:=hu 4 _ s4
   have e5:=hu 5 _ s5
   have e6:=hu 6 _ s6
   have e7:=hu 7 _ s7
   have e8:=hu 8 _ s8
   rw[e2,e4,e5,e6,e7,e8]at ha0
   subst ha0
   clear hu g1 g2 g3 e2 s2 e4 s4 e5 s5 e6 s6 e7 s7 e8 s8
   have hold4:=hmv4.old HOLD3.out HLO3.out.1
   have hfat:=FAt.of HFN.out HK.out hold4 (hmv4.heap HXB3.out.1 HXB3.out.2)
   have hx1:w4.cell? ⟨xb,1,none⟩=some (.slice (some ⟨FB,foff,none⟩) n fbc):=hfat.box.cell 1
   have hxl:=hfat.box.lt
   have hFl:=hfat.lt
   have hq2:w4.cell? ⟨FB,foff+b*6+2,none⟩=some (.int .i64 k.term.kind):=hfat.cell 2 (by decide)
   have hq3:w4.cell? ⟨FB,foff+b*6+3,none⟩=some k.term.argsv:=hfat.cell 3 (by decide)
   have hq4:w4.cell? ⟨FB,foff+b*6+4,none⟩=some k.term.tov:=hfat.cell 4 (by decide)
   have hq5:w4.cell? ⟨FB,foff+b*6+5,none⟩=some (.int .i32 k.term.imm):=hfat.cell 5 (by decide)
   have hstay:∀ {v : Value},(∀ q,v.ownBlock=some q→q<w0.heap.size)→Stays (OwnC7 (OfC ob rb nb bkv) kb m4) w4 v:=fun hv q hq=>by
    have h1:=hv q hq
    have h2:=hold4.size
    have h3:=HOLD3.out.size
    refine⟨?_,by omega⟩
    rintro (e|e)
    ·rcases hmv4.new q e with h5|h5
     ·have:=HLO3.out.1 q h5;omega
     ·omega
    ·have:=HLO3.out.2 q e;omega
   have HTA:=Lib.hid (show (Ints w4 k.term.argsv k.term.args∧Stays (OwnC7 (OfC ob rb nb bkv) kb m4) w4 k.term.argsv)∧Ints w4 k.term.tov k.term.to∧Stays (OwnC7 (OfC ob rb nb bkv) kb m4) w4 k.term.tov from⟨⟨hfat.blk.2.2.1,hstay HKL.out.2.1⟩,hfat.blk.2.2.2,hstay HKL.out.2.2⟩)
   have HOK4:=Lib.hid hok4
   have HMV4:=Lib.hid hmv4
   have HSM4:=Lib.hid (show Sm7 40 m4 from by
    have h1:=hmv4.at_
    have h2:=hmv4.next
    have h3:=hmv4.len
    simp only[List.length_nil]at h3
    dsimp only at h1 h2
    exact⟨by omega,by omega,by omega⟩)
   clear hok4 hmv4 hfat hstay hold4
   go_wp2_with fail
   refine (k7_end HOK4.out HSM4.out k.term n HTA.out HKT.out).mono ?_
   rintro e w5 ⟨m5,ev,rfl,hev,hok5,hmv5,hevr,hewr⟩
   obtain⟨eop,ea,eb,eto,etov,eimm⟩:=ev
   obtain⟨ta,tc,htv⟩:=nums_lenI hevr.1
   dsimp only at htv
   subst htv
   have HEV:=Lib.hid hev
   have HEVR:=Lib.hid hevr
   have HEWR:=Lib.hid hewr
   have HOK5:=Lib.hid hok5
   have HMV5:=Lib.hid ((HMV4.out.trans hmv5).more (a':=4*k.ins.length+2) (n':=4*k.ins.length+1) (i':=5*k.ins.length+2) (by omega) (by omega) (by omega))
   obtain⟨va,vc,hphv⟩:=OwnRow.shape HP.out.row
   obtain⟨pl,hpl⟩:∃ z,phs.length=z:=⟨_,rfl⟩
   rw[hpl]at hphv
   subst hphv
   obtain⟨la,lc,hlv⟩:=own_shape (show w5.ownsRow _ _ _ _ _ _ from hok5.row)
   obtain⟨ll,hll⟩:∃ z,m5.l.length=z:=⟨_,rfl⟩
   rw[hll]at hlv
   have HLV:=Lib.hid hlv
   obtain⟨ba,bc,hbv⟩:=OwnRow.shape HST.out.row
   obtain⟨bl,hbl⟩:∃ z,bks.length=z:=⟨_,rfl⟩
   rw[hbl]at hbv
   subst hbv
   have HBL:=Lib.hid hbl
   obtain⟨tl,htl⟩:∃ z,eto.length=z:=⟨_,rfl⟩
   have hkn:¬ kb=nb:=fun e=>(hok5.aside nb (.inr (.inr (.inl rfl)))).2 (.inl e.symm)
   have hko:¬ kb=ob:=fun e=>(hok5.aside ob (.inl rfl)).2 (.inl e.symm)
   have hbx5:HeapIs w5 nb #[.slice va pl vc,.slice none 0 0,.int .i64 0,.int .i64 0,.int .i64 0,.slice none 0 0,.int .i32 0] 143:=HMV5.out.heap (HP.out.box.turn T3.out fun e=>hkn e.symm) fun e=>by
    rcases e with e|e
    ·exact hkn e.symm
    ·cases e
   have hob5:HeapIs w5 ob #[.int .i64 params,.slice ba bl bc] 105:=HMV5.out.heap (HS2.out.out.turn T3.out fun e=>hko e.symm) fun e=>by
    rcases e with e|e
    ·exact hko e.symm
    ·cases e
   have hon:¬ ob=nb:=heap_ne hob5 hbx5 (by decide)
   have HNE:=Lib.hid (And.intro hkn (And.intro hko hon))
   have HBX5:=Lib.hid hbx5
   have HOB5:=Lib.hid hob5
   have hnl:=hbx5.lt
   have hnf:=hbx5.frozen
   have hn2:=hbx5.cell 2
   have hn3:=hbx5.cell 3
   have hn4:=hbx5.cell 4
   have hn5:=hbx5.cell 5
   have hn6:=hbx5.cell 6
   unfold edv
   dsimp only
   have HTL:=Lib.hid htl
   rw[htl]
   clear hev hevr hewr hok5 hmv5 hlv hll hbl htl hkn hko hbx5 hob5 hon hx1 hxl hFl hq2 hq3 hq4 hq5 hpl
   go_upto_region 18 with fail
   obtain⟨w6,hw6⟩:∃ z,z=((((w5.setCell ⟨nb,2,none⟩ (.int .i64 eop)).setCell ⟨nb,3,none⟩ (.int .i64 ea)).setCell ⟨nb,4,none⟩ (.int .i64 eb)).setCell ⟨nb,5,none⟩ (.slice ta tl tc)).setCell ⟨nb,6,none⟩ (.int .i32 eimm):=⟨_,rfl⟩
   have t6:Turn (fun q=>q=nb) w5 w6:=by rw[hw6];exact (((((Turn.refl (fun q=>q=nb) w5).setCell (p:=⟨nb,2,none⟩) rfl _).setCell (p:=⟨nb,3,none⟩) rfl _).setCell (p:=⟨nb,4,none⟩) rfl _).setCell (p:=⟨nb,5,none⟩) rfl _).setCell (p:=⟨nb,6,none⟩) rfl _
   have hbx6:HeapIs w6 nb #[.slice va pl vc,.slice none 0 0,.int .i64 eop,.int .i64 ea,.int .i64 eb,.slice ta tl tc,.int .i32 eimm] 143:=by rw[hw6];exact ((((HBX5.out.set 2 _).set 3 _).set 4 _).set 5 _).set 6 _
   rw[←hw6]
   have hkb6:HeapIs w6 kb #[sv,.int .i64 m5.at_,.int .i64 m5.next,.slice la ll lc] 173:=by rw[←HLV.out];exact HOK5.out.made.turn t6 HNE.out.1
   have hkl:=hkb6.lt
   have hk3:=hkb6.cell 3
   clear hnl hnf hn2 hn3 hn4 hn5 hn6
   have hnl:=hbx6.lt
   have hnf:=hbx6.frozen
   have hn1:=hbx6.cell 1
   have T6:=Lib.hid t6
   have HBX6:=Lib.hid hbx6
   clear hw6 t6 hbx6 hkb6
   go_upto_region 19 with fail
   obtain⟨w7,hw7⟩:∃ z,z=w6.setCell ⟨nb,1,none⟩ (.slice la ll lc):=⟨_,rfl⟩
   have t7:Turn (fun q=>q=nb) w5 w7:=by rw[hw7];exact T6.out.setCell (p:=⟨nb,1,none⟩) rfl _
   have HBX7:=Lib.hid (show HeapIs w7 nb #[.slice va pl vc,.slice la ll lc,.int .i64 eop,.int .i64 ea,.int .i64 eb,.slice ta tl tc,.int .i32 eimm] 143 from by rw[hw7];exact HBX6.out.set 1 _)
   rw[←hw7]
   have hob7:=HOB5.out.turn t7 HNE.out.2.2
   have hol:=hob7.lt
   have ho1:=hob7.cell 1
   have HOB7:=Lib.hid hob7
   have HROW7:=Lib.hid (show OwnRow mbcells 7 143 w0.heap.size w7 (.slice ba bl bc) bks from by
    have h2:=HS2.out.row
    have hd:∀ q,(Value.slice ba bl bc).ownBlock=some q→¬ q=nb∧¬ q=kb:=fun q hq=>⟨fun e=>by have h9:=(World.ownsRow.lt (show wr.ownsRow _ _ _ _ _ _ from HST.out.row) q hq).2;have:=HNB.out;omega,fun e=>(HOK5.out.aside q (.inr (.inr (.inr hq)))).2 (.inl e)⟩
    exact own_turn (own_turn (own_turn h2 T3.out fun q hq e=>(hd q hq).2 e) HMV5.out.turn fun q hq e=>by
     rcases e with e|e
     ·exact (hd q hq).2 e
     ·cases e) t7 fun q hq e=>(hd q hq).1 e)
   have T7:=Lib.hid t7
   obtain⟨BB,hBB⟩:∃ z:MBlkV,z=⟨phs,.slice va pl vc,m5.l,.slice la ll lc,⟨eop,ea,eb,eto,.slice ta tl tc,eimm⟩⟩:=⟨_,rfl⟩
   have HBC:=Lib.hid (show mbcells BB=[.slice va pl vc,.slice la ll lc,.int .i64 eop,.int .i64 ea,.int .i64 eb,.slice ta tl tc,.int .i32 eimm] from by rw[hBB];rfl)
   have HB1:=Lib.hid (show ∀ u∈mbcells BB,u.oneCell'=true from by
    rw[HBC.out];intro u hu;simp only[List.mem_cons,List.not_mem_nil,or_false]at hu;rcases hu with rfl | rfl | rfl | rfl | rfl | rfl | rfl<;>rfl)
   have HB2:=Lib.hid (show w0.heap.size≤w7.heap.size from by have:=HST.out.old.size;have:=HP.out.old.size;have:=T3.out.size;have:=HMV5.out.turn.size;have:=T7.out.size;omega)
   have HBE:=Lib.hid hBB
   have hbl9:bl≤9:=by have:=HBL.out;have:=HST.out.len;omega
   clear hw7 t7 hob7 hkl hk3 hnl hnf hn1 hBB
   go_wp2_with (first | refine wpList_load_row rfl _ _ rfl nb rfl 143 _ (0,0) _ HBX7.out Try.underlying143 rfl (by kernel_rfl) ?_ | (refine wpList_append_one2 (base:=w0.heap.size) mbcells 7 mbcells_len (by decide) rfl _ _ 103 rfl 143 (.agg #[.slice none 0 0,.slice none 0 0,.int .i64 0,.int .i64 0,.int .i64 0,.slice none 0 0,.int .i32 0]) 104 Try.underlying103 (by kernel_rfl) rfl (.slice ba bl bc) bks BB w7.heap.size 1 143 rfl rfl (OwnRow.keep HROW7.out ((Since.refl _).alloc _)) (by rw[HBC.out];exact heap_last _ _) HB1.out (by rw[HBL.out];unfold maxLen;omega) (by rw[HBL.out];omega) (by have:=HB2.out;simp;omega) ?_;intro v' w8 hown' ht' hnew';have HO8:=Lib.hid hown';have HT8:=Lib.hid ht';have HN8:=Lib.hid hnew';have hob8:=(HOB7.out.keep ((Since.refl _).alloc _)).turn ht' (own_not HROW7.out HOB7.out (by decide));have ho1:=hob8.cell 1;have hol:=hob8.lt;have hof:=hob8.frozen;have HOB8:=Lib.hid hob8;obtain⟨va2,vc2,hv2⟩:=own_shape (show w8.ownsRow _ _ _ _ _ _ from hown');rw[show (bks++[BB]).length=bl+1 from by rw[List.length_append,HBL.out];rfl]at hv2;subst hv2;clear hown' ht' hnew' hob8))
   have t9:Turn (fun q=>q=ob) w8 (w8.setCell ⟨ob,1,none⟩ (.slice va2 (bl+1) vc2)):=(Turn.refl (fun q=>q=ob) w8).setCell (p:=⟨ob,1,none⟩) rfl _
   have hlen8:(bks++[BB]).length=bks.length+1:=by rw[List.length_append];rfl
   have hout:HeapIs (w8.setCell ⟨ob,1,none⟩ (.slice va2 (bl+1) vc2)) ob #[.int .i64 params,.slice va2 (bl+1) vc2] 105:=HOB8.out.set 1 _
   have HOWN:OwnRow mbcells 7 143 w0.heap.size w8 (.slice va2 (bl+1) vc2) (bks++[⟨phs,.slice va pl vc,m5.l,m5.lv,⟨eop,ea,eb,eto,.slice ta eto.length tc,eimm⟩⟩]):=by
    rw[HLV.out,HTL.out,←HBE.out]
    exact HO8.out
   exact HK9.out (n-(b+1)) _ _ (by omega) ⟨b+1,_,_,rfl,by omega,(frO_mk rfl rfl (sl_cons rfl (sl_cons rfl (sl_cons rfl (sl_cons rfl (sl_cons rfl (sl_nil _))))))),HST.out.next (mI:=⟨at_,next,[],.slice none 0 0,w0.heap.size⟩) HK.out HP.out HNB.out T3.out ⟨HCN.out.1,HCN.out.2.1,HCN.out.2.2,rfl,rfl,rfl⟩ HMV5.out HOK5.out HEVR.out HEWR.out HEV.out HKP.out.2 HKP.out.1 T7.out ((Since.refl _).alloc _) HT8.out HN8.out HOWN t9 hout⟩
  ·obtain rfl:n=b:=by omega
   go_wp2_with fail
   exact HQ.out _ _ bks bkv (frO_mk rfl rfl (sl_cons rfl (sl_cons rfl (sl_cons rfl (sl_cons rfl (sl_nil _)))))) HST.out
def MFnNew (w w':World) (g:MFnV):Prop:=(∀ q,g.bv.ownBlock=some q→w.heap.size≤q∧q<w'.heap.size)∧∀ b∈g.blocks,MStay (fun q=>q<w.heap.size) w' b
def TopV (N:Int) (v:Value) (w:World):Prop:=∃ x:Int,v=.int .i64 x∧0≤x∧x≤N
theorem TopV.stable (N:Int):Stable (TopV N):=fun v w w' h s=>h
def NewMk (N:Int) (sv v:Value) (w:World):Prop:=∃ x:Int,v=.agg #[sv,.int .i64 0,.int .i64 x,.slice none 0 0]∧0≤x∧x≤N
theorem NewMk.stable (N:Int) (sv:Value):Stable (NewMk N sv):=fun v w w' h s=>h
def NewMkB (N:Int) (w0:World) (sv v:Value) (w:World):Prop:=∃ (q:Nat) (x:Int),v=.pointer (some ⟨q,0,none⟩)∧(0≤x∧x≤N)∧w0.heap.size≤q∧HeapIs w q #[sv,.int .i64 0,.int .i64 x,.slice none 0 0] 173
theorem NewMkB.stable (N:Int) (w0:World) (sv:Value):Stable (NewMkB N w0 sv):=fun v w w' ⟨q,x,h1,h2,h3,h4⟩ s=>⟨q,x,h1,h2,h3,h4.keep s⟩
theorem MadeF.fnFew {f : FnV} (h:MadeF f):FnFew 700 f.blocks:=
 ⟨by have:=h.blocks;omega,fun b hb=>⟨by have:=(h.phis b hb).1;omega,fun p hp=>⟨((h.phis b hb).2 p hp).1,by have:=((h.phis b hb).2 p hp).2.1;omega⟩⟩,fun b hb=>⟨by have h1:=h.total;have h2:=mem_le_sum (List.mem_map.2 ⟨b,hb,rfl⟩:b.ins.length∈f.blocks.map fun b=>b.ins.length);omega,h.ins b hb⟩⟩
set_option maxHeartbeats 4000000 in
set_option maxRecDepth 1000000 in
theorem of_any (f:FnV) (sv:Value) (l:List Int) (w:World) (hf:FnIn w f) (hmf:MadeF f) (hfl:FnLow w f) (hsv:Ints w sv l∧∀ q,sv.ownBlock=some q→q<w.heap.size) :
  Calls Try.prog 93 #[fv f,sv] w (fun e w'=>∃ g:MFnV,e=.returned (mfv g)∧MFnIn w' g∧MadeM g∧Since w w'∧MFnNew w w' g):=by
 obtain⟨params,fb,bv⟩:=f
 obtain⟨n,hnn⟩:∃ n,fb.length=n:=⟨_,rfl⟩
 have hn9:1≤n∧n≤9:=by rw[←hnn];exact hmf.blocks
 obtain⟨FB,foff,fbc,rfl⟩:∃ FB foff fbc,bv=.slice (some ⟨FB,foff,none⟩) n fbc:=by
  rcases (show RowIn fbcells 6 FBlkIn w bv fb from hf) with ⟨a,_,h2⟩|⟨B,off,cap,h1,_⟩
  ·rw[h2]at hnn;simp at hnn;omega
  ·exact⟨B,off,cap,by rw[h1,hnn]⟩
 obtain⟨sa,sc,hv⟩:=nums_lenI hsv.1
 obtain⟨sl,hsl⟩:∃ x,l.length=x:=⟨_,rfl⟩
 rw[hsl]at hv
 subst hv
 have HFN:=Lib.hid hf
 have HMF:=Lib.hid hmf
 have HFL:=Lib.hid hfl
 have HSV:=Lib.hid hsv
 have HNN:=Lib.hid hnn
 have HPA:=Lib.hid (show 0≤params∧params≤4 from hmf.params)
 clear hf hmf hfl hsv hsl hnn
 unfold fv
 dsimp only
 go_enter Try.func93,Try.ntmps93
 go_upto_region 1 with fail
 obtain⟨w1,hw1⟩:∃ z,z=(w.alloc (.cells #[.int .i64 params,.slice (some ⟨FB,foff,none⟩) n fbc] 120)).alloc (.cells #[.int .i64 0,.slice none 0 0] 105):=⟨_,rfl⟩
 have HS1:=Lib.hid (show Since w w1 from by rw[hw1];exact ((Since.refl w).alloc _).alloc _)
 obtain⟨xb,hxb⟩:∃ z,z=w.heap.size:=⟨_,rfl⟩
 obtain⟨rb,hrb⟩:∃ z,z=w.heap.size+1:=⟨_,rfl⟩
 have HXB:=Lib.hid (show HeapIs w1 xb #[.int .i64 params,.slice (some ⟨FB,foff,none⟩) n fbc] 120 from by rw[hw1,hxb];exact (HeapIs.new _ _ _).keep ((Since.refl _).alloc _))
 have HRB:=Lib.hid (show HeapIs w1 rb #[.int .i64 0,.slice none 0 0] 105 from by
  rw[hw1,hrb]
  have h9:=HeapIs.new (w.alloc (.cells #[.int .i64 params,.slice (some ⟨FB,foff,none⟩) n fbc] 120)) #[.int .i64 0,.slice none 0 0] 105
  rw[show (w.alloc (.cells #[.int .i64 params,.slice (some ⟨FB,foff,none⟩) n fbc] 120)).heap.size=w.heap.size+1 from by simp]at h9
  exact h9)
 rw[←hw1,←hrb,←hxb]
 have HZ1:=Lib.hid (show xb=w.heap.size∧rb=w.heap.size+1∧w1.heap.size=w.heap.size+2 from⟨hxb,hrb,by rw[hw1];simp⟩)
 clear hw1 hxb hrb
 refine wp_region_since_tail 8 rfl (by decide +kernel) (by decide +kernel) (by decide +kernel) (by decide)
  [Is (.slice sa sl sc),Is (.agg #[.int .i64 params,.slice (some ⟨FB,foff,none⟩) n fbc]),TopV 700,Is (.pointer (some ⟨xb,0,none⟩)),Is (.int .i64 params),TopV 700,NewMk 700 (.slice sa sl sc),NewMkB 700 w1 (.slice sa sl sc)]
  (by repeat (first | exact trivial | refine⟨Is.stable _,?_⟩ | refine⟨TopV.stable _,?_⟩ | refine⟨NewMk.stable _ _,?_⟩ | refine⟨NewMkB.stable _ _ _,?_⟩)) ⟨?_,?_,?_,?_,?_,?_,?_,?_,trivial⟩ ?_
 rotate_right
 ·intro vs w2 hs hk
  simp only[List.take,List.drop,putAll,Act.put,KnowsAll,nthF,Is,List.setIfInBounds_toArray,List.set_cons_zero,List.set_cons_succ,Nat.reduceAdd]at hk ⊢
  try simp only[hk]
  obtain⟨kb,x,h7,hx,hkz,hkb⟩:NewMkB 700 w1 (.slice sa sl sc) (vs 7) w2:=by exact hk.2.2.2.2.2.2.2.1
  simp only[h7]
  have HXB2:=Lib.hid (HXB.out.keep hs)
  have HRB2:=Lib.hid (HRB.out.keep hs)
  have HKB2:=Lib.hid hkb
  have HS2:=Lib.hid (HS1.out.trans hs)
  have HZ:=Lib.hid (And.intro hkz (And.intro HZ1.out hs.size))
  have hc0:=HXB2.out.cell 0
  have hl0:=HXB2.out.lt
  clear hk hs hkb hkz
  go_upto_block 0 with fail
  have hlow:w.heap.size≤xb∧w.heap.size≤rb∧xb<w1.heap.size∧rb<w1.heap.size∧xb≠rb:=by have:=HZ1.out;omega
  obtain⟨w4,hw4⟩:∃ z,z=w2.alloc (.cells #[.int .i64 params,.slice none 0 0] 105):=⟨_,rfl⟩
  have hs4:Since w2 w4:=by rw[hw4];exact (Since.refl _).alloc _
  obtain⟨ob,hob⟩:∃ z,z=w2.heap.size:=⟨_,rfl⟩
  rw[←hw4,←hob]
  have hst:OfS w xb ob rb kb n params (.slice (some ⟨FB,foff,none⟩) n fbc) (.slice sa sl sc) fb 0 [] (.slice none 0 0) w4:=by
   have h1:=HZ.out
   refine⟨HXB2.out.keep hs4,by rw[hw4,hob];exact HeapIs.new _ _ _,HRB2.out.keep hs4,⟨0,x,.slice none 0 0,HKB2.out.keep hs4,Nat.zero_le _,hx.1,by omega⟩,HS2.out.trans hs4,⟨by omega,by omega,hlow.2.1,hlow.1⟩,by omega,OwnRow.nil _ _ _ _ _,fun z hz=>(by cases hz),rfl,Nat.zero_le _⟩
  have HST:=Lib.hid hst
  clear hlow hw4 hs4 hob hst hx hc0 hl0
  refine of_blocks w (.slice sa sl sc) l params fb xb rb kb ob FB foff n fbc _ _ _ (frO_mk rfl rfl (sl_cons rfl (sl_cons rfl (sl_cons rfl (sl_cons rfl (sl_cons rfl (sl_nil _))))))) HFN.out HFL.out HMF.out HNN.out hn9 HSV.out HST.out ?_
  clear HST
  intro a1 w5 bks bkv hf hst
  obtain⟨u,ha0,hu⟩:=frameO_ex hf
  obtain⟨g1,g2,s2,s4,s5,s6,g3⟩:=hf
  have e2:=hu 2 _ s2
  have e4:=hu 4 _ s4
  have e5:=hu 5 _ s5
  have e6:=hu 6 _ s6
  rw[e2,e4,e5,e6]at ha0
  subst ha0
  clear hu g1 g2 g3 e2 s2 e4 s4 e5 s5 e6 s6
  have HST:=Lib.hid hst
  obtain⟨ba,bc,hbv⟩:=OwnRow.shape hst.row
  rw[hst.len]at hbv
  subst hbv
  have hob5:=hst.out
  have ho0:=hob5.cell 0
  have ho1:=hob5.cell 1
  have hol:=hob5.lt
  have hrb5:=hst.res
  have hr0:=hrb5.cell 0
  have hr1:=hrb5.cell 1
  have hrl:=hrb5.lt
  have hrf:=hrb5.frozen
  clear hst hob5 hrb5
  go_wp2_with fail
  have hres:=(HST.out.res.set 0 (.int .i64 params)).set 1 (.slice ba n bc)
  try simp only[Exit.inBlock,Exit.then]
  refine bodyPost_ret (results_cell_row rfl _ _ rb 105 #[.int .i64 params,.slice ba n bc] (0,0) _ rfl hres Try.underlying105 rfl (by kernel_rfl)) rfl ?_
  have t:Turn (fun q=>q=rb) w5 ((w5.setCell ⟨rb,0,none⟩ (.int .i64 params)).setCell ⟨rb,1,none⟩ (.slice ba n bc)):=((Turn.refl (fun q=>q=rb) w5).setCell (p:=⟨rb,0,none⟩) rfl _).setCell (p:=⟨rb,1,none⟩) rfl _
  refine⟨⟨params,bks,.slice ba n bc⟩,rfl,row_own_in mbcells_len (own_turn HST.out.row t fun q hq e=>own_not HST.out.row HST.out.res (by decide) (e ▸ hq)) fun z hz=>((HST.out.each z hz).1).turn (HST.out.each z hz).2.1 t (fun q _ e=>.inr (.inr (.inr (.inl e)))),⟨HPA.out,by show 1≤bks.length∧bks.length≤9;rw[HST.out.len];exact hn9,fun z hz=>?_,?_⟩,t.toSince HST.out.old (fun q hq e=>by have:=HST.out.low;omega),fun q hq=>⟨(World.ownsRow.lt (show w5.ownsRow _ _ _ _ _ _ from HST.out.row) q hq).1,Nat.lt_of_lt_of_le (World.ownsRow.lt (show w5.ownsRow _ _ _ _ _ _ from HST.out.row) q hq).2 t.size⟩,fun z hz=>(HST.out.each z hz).2.1.mono (fun q e=>.inl (.inl e)) t.size⟩
  ·show MBGood bks.length z
   rw[HST.out.len]
   exact (HST.out.each z hz).2.2
  ·have h1:=HST.out.total
   have h2:=finsSum_take fb n
   have h3:finsSum fb≤700:=HMF.out.total
   show insSum7 bks≤3600
   omega
 all_goals
  intro vs w2 hs hk _
  simp only[List.take,putAll,Act.put,Knows,nthF,Is,List.setIfInBounds_toArray,List.set_cons_zero,List.set_cons_succ,Nat.reduceAdd]at hk ⊢
  try simp only[hk]
 ·go_wp2
  exact⟨_,rfl,rfl,Since.refl _⟩
 ·have hbx:HeapIs w2 xb #[.int .i64 params,.slice (some ⟨FB,foff,none⟩) n fbc] 120:=HXB.out.keep hs
  clear hk
  refine wpList_load_row rfl _ _ rfl xb rfl 120 _ (0,0) _ hbx Try.underlying120 rfl (by kernel_rfl) ?_
  go_wp2
  exact⟨_,rfl,rfl,Since.refl _⟩
 ·clear hk
  go_wp2_with fail
  refine (top3_any 700 params fb (.slice (some ⟨FB,foff,none⟩) n fbc) w2 (FnIn.keep HFN.out (HS1.out.trans hs)) HMF.out.fnFew ⟨HPA.out.1,by have:=HPA.out.2;omega,by have:=HPA.out.2;omega⟩ (by decide) (by have:=HMF.out.blocks;exact this.2)).mono ?_
  rintro e w3 ⟨x,rfl,hx,hs3⟩
  go_wp2
  exact⟨_,rfl,⟨x,rfl,hx⟩,hs3⟩
 ·go_wp2
  exact⟨_,rfl,rfl,Since.refl _⟩
 ·have hbx:HeapIs w2 xb #[.int .i64 params,.slice (some ⟨FB,foff,none⟩) n fbc] 120:=HXB.out.keep hs
  have hc:=hbx.cell 0
  have hl:=hbx.lt
  clear hbx
  go_wp2
  exact⟨_,rfl,rfl,Since.refl _⟩
 ·obtain⟨x,h2,hx0,hx1⟩:TopV 700 (vs 2) w2:=by exact hk.1
  simp only[h2]
  clear hk
  have hpa:=HPA.out
  go_wp2
  all_goals exact⟨_,rfl,⟨_,rfl,by omega,by omega⟩,Since.refl _⟩
 ·obtain⟨x,h5,hx0,hx1⟩:TopV 700 (vs 5) w2:=by exact hk.2.1
  simp only[h5]
  clear hk
  go_wp2
  exact⟨_,rfl,⟨x,rfl,hx0,hx1⟩,Since.refl _⟩
 ·obtain⟨x,h6,hx0,hx1⟩:NewMk 700 (.slice sa sl sc) (vs 6) w2:=by exact hk.1
  simp only[h6]
  have hz:=hs.size
  clear hk
  go_wp2
  exact⟨_,rfl,⟨_,x,rfl,⟨hx0,hx1⟩,hz,HeapIs.new _ _ _⟩,(Since.refl _).alloc _⟩
set_option maxHeartbeats 2000000 in
set_option maxRecDepth 1000000 in
theorem made7_any (sv:Value) (l:List Int) (w:World) (hs:Ints w sv l) (hsv:∀ q,sv.ownBlock=some q→q<w.heap.size) (hl:l.length≤1000) :
  Calls Try.prog 60 #[sv] w (fun e w'=>∃ g:MFnV,e=.returned (mfv g)∧MFnIn w' g∧MadeM g∧Since w w'∧MFnNew w w' g):=by
 obtain⟨sa,sc,hv⟩:=nums_lenI hs
 obtain⟨sl,hsl⟩:∃ x,l.length=x:=⟨_,rfl⟩
 rw[hsl]at hv hl
 subst hv
 have HS:=Lib.hid hs
 have HSV:=Lib.hid hsv
 have HSL:=Lib.hid hsl
 clear hs hsl hsv
 go_enter Try.func60,Try.ntmps60
 go_wp2_with fail
 obtain⟨w1,hw1⟩:∃ z,z=(w.alloc (.cells #[.int .i64 0,.slice none 0 0] 105)).alloc (.cells #[] 3):=⟨_,rfl⟩
 obtain⟨rb,hrb⟩:∃ z,z=w.heap.size:=⟨_,rfl⟩
 have HRB:=Lib.hid (show HeapIs w1 rb #[.int .i64 0,.slice none 0 0] 105 from by rw[hw1,hrb];exact (HeapIs.new _ _ _).keep ((Since.refl _).alloc _))
 have HS1:=Lib.hid (show Since w w1 from by rw[hw1];exact ((Since.refl w).alloc _).alloc _)
 have HO1:=Lib.hid (show w1.ownsRow (w.heap.size+1) 3 1 (.slice (some ⟨w.heap.size+1,0,none⟩) 0 0) 0 (([]:List Int).map (Value.int .i64)) from by
  have h9:=HeapIs.new (w.alloc (.cells #[.int .i64 0,.slice none 0 0] 105)) #[] 3
  rw[show (w.alloc (.cells #[.int .i64 0,.slice none 0 0] 105)).heap.size=w.heap.size+1 from by simp,←hw1]at h9
  exact⟨rfl,.inr ⟨w.heap.size+1,0,#[],rfl,Nat.le_refl _,h9,by simp,by unfold maxLen;omega,by simp,by simp⟩⟩)
 have HZ:=Lib.hid (show rb=w.heap.size∧w1.heap.size=w.heap.size+2 from⟨hrb,by rw[hw1];simp⟩)
 rw[←hw1]
 clear hw1 hrb
 go_loopw [3,4] (fun ov iv wr=>∃ (k:Nat) (v:Value) (xs:List Int),ov=v∧iv=.int .i64 ((sl:Int)-1-k)∧k≤sl∧xs.length=k∧wr.ownsRow (w.heap.size+1) 3 1 v k (xs.map (Value.int .i64))∧Since w wr∧HeapIs wr rb #[.int .i64 0,.slice none 0 0] 105∧w.heap.size+2≤wr.heap.size) (fun _ iv _=>(intOf iv+1).toNat)
 case atStart=>exact⟨0,_,[],rfl,by simp,Nat.zero_le _,rfl,HO1.out,HS1.out,HRB.out,by have:=HZ.out;omega⟩
 case round =>
  obtain⟨k,v,xs,rfl,rfl,hk,hxl,hown,hs,hrb,hz⟩:=hrel
  obtain⟨va,vc,hv⟩:=own_shape hown
  subst hv
  have HO:=Lib.hid hown
  have HSR:=Lib.hid hs
  have HR:=Lib.hid hrb
  have HXL:=Lib.hid hxl
  clear hown hs hrb hxl HO1 HS1 HRB
  by_cases hlt:k<sl
  ·obtain⟨r,hr⟩:∃ r,l[sl-1-k]? = some r:=⟨_,List.getElem?_eq_getElem (by rw[HSL.out];omega)⟩
   obtain⟨SB,soff,rfl,hSB,hcr⟩:∃ b off,sa=some ⟨b,off,none⟩∧b<wr.heap.size∧wr.cell? ⟨b,off+(sl-1-k),none⟩=some (.int .i64 r):=by
    rcases HS.out.keep HSR.out with ⟨_,_,h2⟩|⟨b,off,cap,h1,_,_,h4,h5⟩
    ·rw[h2]at hr;cases hr
    ·injection h1 with e1 e2 e3
     exact⟨b,off,e1,h4,h5 _ r hr⟩
   have hcr2:wr.cell? ⟨SB,soff+((sl:Int)-1-(k:Int)).toNat,none⟩=some (.int .i64 r):=by rw[show ((sl:Int)-1-(k:Int)).toNat=sl-1-k from by omega];exact hcr
   have hb1:0≤(sl:Int)-1-(k:Int):=by omega
   have hb2:(sl:Int)-1-(k:Int)<(sl:Int):=by omega
   have K1:=Lib.hid (show (wr.alloc (.cells #[.int .i64 r] 3)).ownsRow (w.heap.size+1) 3 1 (.slice va k vc) xs.length (xs.map (Value.int .i64)) from own_keep (by rw[HXL.out];exact HO.out) ((Since.refl _).alloc _))
   have K2:=Lib.hid (show xs.length + [r].length≤1000000 from by rw[HXL.out];simp;omega)
   have K3:=Lib.hid (show w.heap.size+1≤(wr.alloc (.cells #[.int .i64 r] 3)).heap.size from by simp;omega)
   have K4:=Lib.hid (show HeapIs (wr.alloc (.cells #[.int .i64 r] 3)) rb #[.int .i64 0,.slice none 0 0] 105 from HR.out.keep ((Since.refl _).alloc _))
   have K5:=Lib.hid (show ¬ (Value.slice va k vc).ownBlock=some rb from own_not HO.out HR.out (by decide))
   clear hr
   go_wp2_with (refine wpList_append_nums2 (base:=w.heap.size+1) .i64 rfl _ _ 25 rfl 3 (.int .i64 0) 8 Try.underlying25 Try.info3 rfl (by decide) (.slice va k vc) _ xs [r] rfl rfl K1.out (one_nums _ _ _) K2.out K3.out ?_;intro v6 w6 hown6 ht6 hnew6;rw[List.length_append,HXL.out]at hown6;have HN6:=Lib.hid (show w6.ownsRow (w.heap.size+1) 3 1 v6 (k+1) ((xs++[r]).map (Value.int .i64)) from hown6);have HR6:=Lib.hid (K4.out.turn ht6 K5.out);have HS6:=Lib.hid (show Since w w6 from ht6.toSince (HSR.out.trans ((Since.refl _).alloc _)) fun q hq e=>by have:=(World.ownsRow.lt HO.out q e).1;omega);have HZ6:=Lib.hid (show w.heap.size+2≤w6.heap.size from by have:=ht6.size;simp at this;omega);clear hown6 ht6 hnew6)
   go_roundw
   case rel=>exact⟨k+1,_,xs++[r],by trivial,by (first | go_num | (congr 1;push_cast;omega)),by omega,by rw[List.length_append,HXL.out];rfl,HN6.out,HS6.out,HR6.out,HZ6.out⟩
   case measure=>simp[intOf];omega
  ·obtain rfl:sl=k:=by omega
   have hb1:¬ 0≤(sl:Int)-1-(sl:Int):=by omega
   go_wp2_with fail
   refine (made_any (.slice sa sl sc) l wr (HS.out.keep HSR.out) (fun q hq=>Nat.lt_of_lt_of_le (HSV.out q hq) HSR.out.size)).mono ?_
   rintro e w3 ⟨f,rfl,hfn,hmf,hs3,hfl⟩
   have HFN:=Lib.hid hfn
   have HMF:=Lib.hid hmf
   have HFL:=Lib.hid hfl
   have HS3:=Lib.hid hs3
   have HXV:=Lib.hid (show Ints w3 (.slice va sl vc) xs∧∀ q,(Value.slice va sl vc).ownBlock=some q→q<w3.heap.size from⟨by have h9:=nums_of_own (show wr.ownsRow (w.heap.size+1) 3 1 (.slice va sl vc) xs.length (xs.map (Value.int .i64)) from by rw[HXL.out];exact HO.out);exact h9.keep hs3,fun q hq=>Nat.lt_of_lt_of_le (World.ownsRow.lt HO.out q hq).2 hs3.size⟩)
   clear hfn hmf hfl hs3 hk hb1 hlt
   go_wp2_with fail
   refine (of_any f (.slice va sl vc) xs w3 HFN.out HMF.out HFL.out HXV.out).mono ?_
   rintro e w4 ⟨g,rfl,hg,hmg,hs4,hnew⟩
   obtain⟨gp,gb,gbv⟩:=g
   obtain⟨ga,gc,hgv,_⟩:=RowIn.shape (show RowIn mbcells 7 MBlkIn w4 gbv gb from hg)
   obtain⟨gl,hgl⟩:∃ z,gb.length=z:=⟨_,rfl⟩
   rw[hgl]at hgv
   subst hgv
   unfold mfv
   dsimp only
   have HRB:=Lib.hid (show HeapIs w4 w.heap.size #[.int .i64 0,.slice none 0 0] 105 from by rw[←HZ.out.1];exact HR.out.keep (HS3.out.trans hs4))
   have hr0:=HRB.out.cell 0
   have hr1:=HRB.out.cell 1
   have hrl:=HRB.out.lt
   have hrf:=HRB.out.frozen
   have HG:=Lib.hid hg
   have HMG:=Lib.hid hmg
   have HS4:=Lib.hid hs4
   have HNEW:=Lib.hid hnew
   clear hg hmg hs4 hnew hgl
   go_wp2_with fail
   have hres:=(HRB.out.set 0 (.int .i64 gp)).set 1 (.slice ga gl gc)
   try simp only[Exit.inBlock,Exit.then]
   refine bodyPost_ret (results_cell_row rfl _ _ w.heap.size 105 #[.int .i64 gp,.slice ga gl gc] (0,0) _ rfl hres Try.underlying105 rfl (by kernel_rfl)) rfl ?_
   have t:Turn (fun q=>q=w.heap.size) w4 ((w4.setCell ⟨w.heap.size,0,none⟩ (.int .i64 gp)).setCell ⟨w.heap.size,1,none⟩ (.slice ga gl gc)):=((Turn.refl (fun q=>q=w.heap.size) w4).setCell (p:=⟨w.heap.size,0,none⟩) rfl _).setCell (p:=⟨w.heap.size,1,none⟩) rfl _
   have hz3:w.heap.size+2≤w3.heap.size:=Nat.le_trans hz HS3.out.size
   refine⟨⟨gp,gb,.slice ga gl gc⟩,rfl,RowIn.turn (show RowIn mbcells 7 MBlkIn w4 (.slice ga gl gc) gb from HG.out) t (fun q hq e=>by have:=(HNEW.out.1 q hq).1;omega) (fun b hb hbi=>hbi.turn (HNEW.out.2 b hb) t fun q _ e=>by omega),HMG.out,t.toSince ((HSR.out.trans HS3.out).trans HS4.out) (fun q hq e=>by omega),fun q hq=>⟨by have:=(HNEW.out.1 q hq).1;omega,Nat.lt_of_lt_of_le (HNEW.out.1 q hq).2 t.size⟩,fun b hb=>(HNEW.out.2 b hb).mono (fun q e=>.inl (by omega)) t.size⟩
set_option maxHeartbeats 2000000 in
set_option maxRecDepth 1000000 in
theorem made12_any (sv:Value) (l:List Int) (w:World) (hs:Ints w sv l) (hsv:∀ q,sv.ownBlock=some q→q<w.heap.size) (hl:l.length≤1000) :
  Calls Try.prog 28 #[sv] w (fun e w'=>∃ p:PrgV,e=.returned (pv p)∧(4≤p.k∧p.k≤16)∧MadeP w.heap.size w' p∧Since w w'):=by
 obtain⟨sa,sc,hv⟩:=nums_lenI hs
 obtain⟨sl,hsl⟩:∃ x,l.length=x:=⟨_,rfl⟩
 rw[hsl]at hv hl
 subst hv
 have HS:=Lib.hid hs
 have HSV:=Lib.hid hsv
 have HSL:=Lib.hid hsl
 clear hs hsl hsv
 go_enter Try.func28,Try.ntmps28
 go_upto_if 6 with fail
 obtain⟨rb,hrb⟩:∃ z,z=w.heap.size:=⟨_,rfl⟩
 obtain⟨w1,hw1⟩:∃ z,z=w.alloc (.cells #[.int .i64 0,.int .i64 0,.int .i64 0,.slice none 0 0] 24):=⟨_,rfl⟩
 have HRB:=Lib.hid (show HeapIs w1 rb #[.int .i64 0,.int .i64 0,.int .i64 0,.slice none 0 0] 24 from by rw[hw1,hrb];exact HeapIs.new _ _ _)
 have HS1:=Lib.hid (show Since w w1 from by rw[hw1];exact (Since.refl w).alloc _)
 have HZ1:=Lib.hid (show rb=w.heap.size∧w1.heap.size=w.heap.size+1 from⟨hrb,by rw[hw1];simp⟩)
 rw[←hw1,←hrb]
 clear hw1 hrb
 refine wp_cut (fun a9 wz=>(∃ kk:Int,(4≤kk∧kk≤16)∧∃ u4 u5 u6 u7 u8 u9 u10 u11 u12 u13 u14 u15 u16 u17,a9=⟨#[.slice sa sl sc,undef,.pointer (some ⟨rb,0,none⟩),.int .i64 kk,u4,u5,u6,u7,u8,u9,u10,u11,u12,u13,u14,u15,u16,u17],[]⟩)∧wz=w1) ?_ ?_
 case refine_2 =>
  intro J K' hJ hK'
  have HJJ:=Lib.hid hJ
  have HKK:=Lib.hid hK'
  clear hJ hK'
  by_cases h0:0<sl
  ·obtain⟨r,hr⟩:∃ r,l[0]? = some r:=⟨_,List.getElem?_eq_getElem (by rw[HSL.out];exact h0)⟩
   obtain⟨SB,soff,rfl,hSB,hcr⟩:=nums_read (show Nums .i64 w1 (.slice sa sl sc) l from HS.out.keep HS1.out) hr
   clear hr
   have hb1:=Int.tmod_lt_of_pos r (show (0:Int)<13 by omega)
   have hb2 : -13<r.tmod 13:=Int.lt_tmod_of_pos r (by omega)
   have hcr0:w1.cell? ⟨SB,soff,none⟩=some (.int .i64 r):=hcr
   have hsp:0≤(r.tmod 13+13) % 13∧(r.tmod 13+13) % 13<13:=⟨Int.emod_nonneg _ (by omega),Int.emod_lt_of_pos _ (by omega)⟩
   clear hcr
   go_wp2_with fail
   refine HKK.out _ _ (Met.intro (HJJ.out _ _ ⟨⟨_,?_,_,_,_,_,_,_,_,_,_,_,_,_,_,_,rfl⟩,rfl⟩))
   omega
  ·go_wp2_with fail
   refine HKK.out _ _ (Met.intro (HJJ.out _ _ ⟨⟨4,by omega,_,_,_,_,_,_,_,_,_,_,_,_,_,_,rfl⟩,rfl⟩))
 intro a9 wz hc
 obtain⟨⟨kk,hkk,u4,u5,u6,u7,u8,u9,u10,u11,u12,u13,u14,u15,u16,u17,ha⟩,hz⟩:=hc
 subst ha
 have e9:=hz.symm
 clear hz
 subst e9
 go_wp2_with fail
 refine (made7_any (.slice sa sl sc) l w1 (HS.out.keep HS1.out) (fun q hq=>Nat.lt_of_lt_of_le (HSV.out q hq) HS1.out.size) (by rw[HSL.out];exact hl)).mono ?_
 rintro e w2 ⟨g,rfl,hg,hmg,hs2,hnew⟩
 have HGI:=Lib.hid hg
 have HMG:=Lib.hid hmg
 have HS2:=Lib.hid hs2
 clear hg hmg hs2 hnew
 go_wp2_with fail
 refine (naive12_any g kk w2 HGI.out HMG.out).mono ?_
 rintro e w3 ⟨p,rfl,hpk,hmp,hs3⟩
 obtain⟨pp,pk,ps,pb,pbv⟩:=p
 obtain⟨ba,bc,hbv⟩:=OwnRow.shape hmp.row
 dsimp only at hbv hpk
 obtain⟨bl,hbl⟩:∃ z,pb.length=z:=⟨_,rfl⟩
 rw[hbl]at hbv
 subst hbv
 have HPK:=Lib.hid hpk
 have HMP:=Lib.hid (hmp.low (Nat.le_trans HS1.out.size HS2.out.size))
 have HS3:=Lib.hid ((HS1.out.trans HS2.out).trans hs3)
 have hrb:=HRB.out.keep (HS2.out.trans hs3)
 have HRB3:=Lib.hid hrb
 have hr0:=hrb.cell 0
 have hr1:=hrb.cell 1
 have hr2:=hrb.cell 2
 have hr3:=hrb.cell 3
 have hrl:=hrb.lt
 have hrf:=hrb.frozen
 unfold pv
 dsimp only
 clear hpk hmp hs3 hrb hbl
 go_wp2_with fail
 have hres:=(((HRB3.out.set 0 (.int .i64 pp)).set 1 (.int .i64 pk)).set 2 (.int .i64 ps)).set 3 (.slice ba bl bc)
 try simp only[Exit.inBlock,Exit.then]
 refine bodyPost_ret (results_cell_row rfl _ _ rb 24 #[.int .i64 pp,.int .i64 pk,.int .i64 ps,.slice ba bl bc] (0,0) _ rfl hres Try.underlying24 rfl (by kernel_rfl)) rfl ?_
 have t:Turn (fun q=>q=rb) w3 ((((w3.setCell ⟨rb,0,none⟩ (.int .i64 pp)).setCell ⟨rb,1,none⟩ (.int .i64 pk)).setCell ⟨rb,2,none⟩ (.int .i64 ps)).setCell ⟨rb,3,none⟩ (.slice ba bl bc)):=((((Turn.refl (fun q=>q=rb) w3).setCell (p:=⟨rb,0,none⟩) rfl _).setCell (p:=⟨rb,1,none⟩) rfl _).setCell (p:=⟨rb,2,none⟩) rfl _).setCell (p:=⟨rb,3,none⟩) rfl _
 exact⟨⟨pp,pk,ps,pb,.slice ba bl bc⟩,rfl,by show 4≤pk∧pk≤16;rw[HPK.out];exact hkk,HMP.out.turn t (Kin.box HRB3.out) (by decide) (by decide) (by decide),t.toSince HS3.out fun q hq e=>by have:=HZ1.out;omega⟩
theorem MadeP.good {B : Nat} {w : World} {p : PrgV} (h:MadeP B w p) (hk:4≤p.k∧p.k≤16):PrgGood p:=
 ⟨⟨h.params.1,h.params.2.1⟩,hk,⟨by have:=h.params;omega,h.slots⟩,h.blocks,h.total,fun b hb=>⟨fun x hx=>((h.each b hb).each x hx).good,(h.each b hb).fin⟩,fun b hb x hx=>((h.each b hb).each x hx).src⟩
set_option maxHeartbeats 1000000 in
set_option maxRecDepth 100000 in
theorem seed17_any (sv:Value) (l:List Int) (w:World) (h:Ints w sv l) (hsv:∀ q,sv.ownBlock=some q→q<w.heap.size) :
  Calls Try.prog 29 #[sv] w (fun e w'=>∃ v,e=.returned v∧w'=w∧Ints w v (l.take 300)∧∀ q,v.ownBlock=some q→q<w.heap.size):=by
 obtain⟨sa,sc,hv⟩:=nums_lenI h
 obtain⟨sl,hsl⟩:∃ x,l.length=x:=⟨_,rfl⟩
 rw[hsl]at hv
 subst hv
 have H:=Lib.hid h
 have HSV:=Lib.hid hsv
 have HSL:=Lib.hid hsl
 have hcap:sl≤sc∧sc≤maxLen:=by
  rcases h with ⟨_,h1,_⟩|⟨b,off,cap,h1,h2,h3,_,_⟩
  ·cases h1;exact⟨Nat.zero_le _,Nat.zero_le _⟩
  ·cases h1;omega
 clear h hsv hsl
 by_cases hlt:300<sl
 ·obtain⟨b,off,rfl⟩:∃ b off,sa=some ⟨b,off,none⟩:=by
   rcases H.out with ⟨_,h1,_⟩|⟨b,off,cap,h1,_⟩
   ·cases h1;omega
   ·cases h1;exact⟨_,_,rfl⟩
  go_enter Try.func29,Try.ntmps29
  go_wp2_with fail
  go_ret
  exact⟨.slice (some ⟨b,off,none⟩) 300 sc,rfl,rfl,nums_take (by rw[HSL.out];exact H.out) 300 (by rw[HSL.out];omega),fun q hq=>HSV.out q hq⟩
 ·go_enter Try.func29,Try.ntmps29
  go_wp2_with fail
  go_ret
  exact⟨_,rfl,rfl,by rw[List.take_of_length_le (by rw[HSL.out];omega)];exact H.out,HSV.out⟩
end Go.Proofs.Ytkpbmbhejpmboaa
