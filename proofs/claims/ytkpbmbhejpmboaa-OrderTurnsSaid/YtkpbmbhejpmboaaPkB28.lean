/- jacquardref03.Made: where each block goes. jacquardref03.Made: a block's phis. jacquardref03.Made: the phis of all blocks. -/
import Derived.Test.YtkpbmbhejpmboaaPkB27
namespace Go.Proofs.Ytkpbmbhejpmboaa
open Go.RowKit
set_option linter.unusedVariables false
set_option maxHeartbeats 8000000 in
set_option maxRecDepth 1000000 in
theorem mk_tos (w:World) (ex:List Bx) (sa:Option Addr) (sl sc:Nat) (l:List Int) (rows:List (Value × List Int)) (m:MkSt) (r mb bb n tb:Nat) (a0:Act) (w1:World) (Q0:Exit→Act→World→Prop) (hfr:Fr [(2,.pointer (some ⟨r,0,none⟩)),(3,.pointer (some ⟨mb,0,none⟩)),(4,.int .i64 n),(5,.slice (some ⟨tb,0,none⟩) n n),(6,.int .i64 0)] a0)
  (hst:MSt w ex mb bb tb (.slice sa sl sc) l n rows m w1) (hn9:1≤n∧n≤9) (hemp:∀ k∈m.bks,k.phis=[]∧k.ins=[])
  (hQ:∀ a1 w2 (bks:List FBlk),Fr [(2,.pointer (some ⟨r,0,none⟩)),(3,.pointer (some ⟨mb,0,none⟩)),(4,.int .i64 n),(5,.slice (some ⟨tb,0,none⟩) n n)] a1→MSt w ex mb bb tb (.slice sa sl sc) l n rows { m with bks:=bks } w2→TosOk rows n bks→(∀ k∈bks,k.phis=[]∧k.ins=[])→Q0 .normal a1 w2):Code.wp Try.prog (mkCode [1,1,1,1,1,1,1,0,1]) Q0 a0 w1:=by
 obtain⟨u,ha0,hu⟩:=frame_ex hfr
 obtain⟨g1,g2,s2,s3,s4,s5,s6,g3⟩:=hfr
 have e2:=hu 2 _ s2
 have e3:=hu 3 _ s3
 have e4:=hu 4 _ s4
 have e5:=hu 5 _ s5
 have e6:=hu 6 _ s6
 rw[e2,e3,e4,e5,e6]at ha0
 subst ha0
 clear hu g1 g2 g3 e2 s2 e3 s3 e4 s4 e5 s5 e6 s6
 conv=>arg 2;whnf
 have HQ:=Lib.hid hQ
 have HEM:=Lib.hid hemp
 clear hQ hemp
 go_wp2_with fail
 refine wp_loop_fr (fun t ac wr=>∃ (b:Nat) (bks:List FBlk),t=n-b∧b≤n∧Fr [(2,.pointer (some ⟨r,0,none⟩)),(3,.pointer (some ⟨mb,0,none⟩)),(4,.int .i64 n),(5,.slice (some ⟨tb,0,none⟩) n n),(6,.int .i64 b)] ac∧MSt w ex mb bb tb (.slice sa sl sc) l n rows { m with bks:=bks } wr∧TosOk rows b bks∧∀ k∈bks,k.phis=[]∧k.ins=[]) n ⟨0,m.bks,rfl,Nat.zero_le _,(fr_mk rfl rfl (sl_cons rfl (sl_cons rfl (sl_cons rfl (sl_cons rfl (sl_cons rfl (sl_nil _))))))),hst,(fun j k r hj _ _=>by omega),HEM.out⟩ ?_
 ·clear hst HEM
  intro t a1 wr K hJ hK
  have HK9:=Lib.hid hK
  clear hK
  obtain⟨b,bks,rfl,hbn,hf,hst,htos,hemp⟩:=hJ
  obtain⟨u,ha0,hu⟩:=frame_ex hf
  obtain⟨g1,g2,s2,s3,s4,s5,s6,g3⟩:=hf
  have e2:=hu 2 _ s2
  have e3:=hu 3 _ s3
  have e4:=hu 4 _ s4
  have e5:=hu 5 _ s5
  have e6:=hu 6 _ s6
  rw[e2,e3,e4,e5,e6]at ha0
  subst ha0
  clear hu g1 g2 g3 e2 s2 e3 s3 e4 s4 e5 s5 e6 s6
  have HST2:=Lib.hid hst
  have HTOS:=Lib.hid htos
  have HEMP:=Lib.hid hemp
  clear hst htos hemp
  by_cases hlt:b<n
  ·obtain⟨k,hk⟩:=HST2.out.at hlt
   obtain⟨⟨rv,rl⟩,hr,hrm,hrc⟩:=HST2.out.row hlt
   obtain⟨ra,rc,hrv⟩:=nums_lenI (HST2.out.tgt.row _ hrm).1
   dsimp only at hrv
   obtain⟨rn,hrn⟩:∃ z,rl.length=z:=⟨_,rfl⟩
   rw[hrn]at hrv
   subst hrv
   have HK:=Lib.hid hk
   have HR:=Lib.hid (And.intro hr hrm)
   have HRC:=Lib.hid hrc
   have HTB:=Lib.hid (HST2.out.tgt.box.lt)
   clear hk hr hrm hrc hrn
   go_wp2_with fail
   refine wp_region_since_tail 10 rfl (by decide +kernel) (by decide +kernel) (by decide +kernel) (by decide)
    [Is (.pointer (some ⟨mb,0,none⟩)),Is (.pointer (some ⟨mb,0,none⟩)),Is (.pointer (some ⟨mb,2,none⟩)),Is (.pointer (some ⟨mb,3,none⟩)),Is (.slice (some ⟨bb,0,none⟩) n n),Is (.int .i64 b),Is (.slice (some ⟨tb,0,none⟩) n n),Is (.int .i64 b),Is (.pointer (some ⟨tb,b,none⟩)),Is (.slice ra rn rc)]
    (by repeat (first | exact trivial | refine⟨Is.stable _,?_⟩ | refine⟨Any.stable,?_⟩ | refine⟨IsNums.stable _ _,?_⟩)) ⟨?_,?_,?_,?_,?_,?_,?_,?_,?_,?_,trivial⟩ ?_
   rotate_right
   ·intro vs w1 hs hk
    simp only[List.take,List.drop,putAll,Act.put,KnowsAll,nthF,Is,List.setIfInBounds_toArray,List.set_cons_zero,List.set_cons_succ,Nat.reduceAdd]at hk ⊢
    try simp only[hk]
    have HST3:=Lib.hid (HST2.out.keep hs)
    have hc4:=HST3.out.cell HK.out (show 4<6 by decide)
    have hl4:=HST3.out.blkAt.lt
    have hf4:=HST3.out.blkAt.frozen (b*6+4)
    clear hs hk
    go_wp2
    have hset:=HST3.out.ok.setTo HK.out rfl (.slice ra rn rc) rl (HST3.out.tgt.row _ HR.out.2)
    have HSET:=Lib.hid (HST3.out.step hset.1 hset.2 (by simp))
    clear hset
    exact HK9.out (n-(b+1)) _ _ (by omega) ⟨b+1,_,rfl,by omega,(fr_mk rfl rfl (sl_cons rfl (sl_cons rfl (sl_cons rfl (sl_cons rfl (sl_cons rfl (sl_nil _))))))),HSET.out,HTOS.out.next (fun r hr=>by have h:=HR.out.1;rw[hr]at h;rw[Option.some.inj h]),fun k2 hk2=>by
     rcases mem_set_idx hk2 with rfl|⟨j,_,hj⟩
     ·exact HEMP.out k (List.mem_of_getElem? HK.out)
     ·exact HEMP.out k2 (List.mem_of_getElem? hj)⟩
   all_goals
    intro vs w1 hs hk _
    simp only[List.take,putAll,Act.put,Knows,nthF,Is,List.setIfInBounds_toArray,List.set_cons_zero,List.set_cons_succ,Nat.reduceAdd]at hk ⊢
    try simp only[hk]
   ·go_wp2
    exact⟨_,rfl,rfl,Since.refl _⟩
   ·have hl3:=(HST2.out.keep hs).box.lt
    go_wp2
    exact⟨_,rfl,rfl,Since.refl _⟩
   ·go_wp2
    exact⟨_,rfl,rfl,Since.refl _⟩
   ·go_wp2
    exact⟨_,rfl,rfl,Since.refl _⟩
   ·have hbx:=(HST2.out.keep hs).box
    have hb3:=hbx.cell 3
    have hl3:=hbx.lt
    go_wp2
    exact⟨_,rfl,rfl,Since.refl _⟩
   ·go_wp2
    exact⟨_,rfl,rfl,Since.refl _⟩
   ·go_wp2
    exact⟨_,rfl,rfl,Since.refl _⟩
   ·go_wp2
    exact⟨_,rfl,rfl,Since.refl _⟩
   ·go_wp2
    exact⟨_,rfl,rfl,Since.refl _⟩
   ·have hc:=(hs.cell (p:=⟨tb,b,none⟩) HTB.out).trans HRC.out
    have hl:=Nat.lt_of_lt_of_le HTB.out hs.size
    go_wp2
    exact⟨_,rfl,rfl,Since.refl _⟩
  ·obtain rfl:n=b:=by omega
   go_wp2_with fail
   exact HQ.out _ _ bks (fr_mk rfl rfl (sl_cons rfl (sl_cons rfl (sl_cons rfl (sl_cons rfl (sl_nil _)))))) HST2.out HTOS.out HEMP.out
set_option maxHeartbeats 8000000 in
set_option maxRecDepth 1000000 in
theorem mk_phs (w:World) (sa:Option Addr) (sl sc:Nat) (l:List Int) (rows:List (Value × List Int)) (m:MkSt) (r mb bb n tb pb b v A:Nat) (ph:List Int) (x:Int) (a0:Act) (w1:World) (Q0:Exit→Act→World→Prop) (hfr:Fr [(2,.pointer (some ⟨r,0,none⟩)),(3,.pointer (some ⟨mb,0,none⟩)),(4,.int .i64 n),(5,.slice (some ⟨tb,0,none⟩) n n),(7,.slice (some ⟨pb,0,none⟩) n n),(8,.int .i64 b),(10,.int .i64 0)] a0)
  (hst:MSt w (exP r pb ph) mb bb tb (.slice sa sl sc) l n rows m w1) (hn9:1≤n∧n≤9) (hlt:b<n) (hvv:ph[b]? = some (v:Int)) (hv3:v≤3) (hx5:x≤100) (htos:TosOk rows n m.bks) (hphi:PhI ph n b 0 m) (hhd:Hd x A (3*b+0) m)
  (hQ:∀ a1 w2 (m:MkSt),Fr [(2,.pointer (some ⟨r,0,none⟩)),(3,.pointer (some ⟨mb,0,none⟩)),(4,.int .i64 n),(5,.slice (some ⟨tb,0,none⟩) n n),(7,.slice (some ⟨pb,0,none⟩) n n),(8,.int .i64 b)] a1→MSt w (exP r pb ph) mb bb tb (.slice sa sl sc) l n rows m w2→TosOk rows n m.bks→PhI ph n n 0 m→Hd x A (3*b+3) m→Q0 .normal a1 w2):Code.wp Try.prog (mkCode [1,1,1,1,1,1,1,1,1,0,1,0,0,1,0,0,1,1,1]) Q0 a0 w1:=by
 obtain⟨u,ha0,hu⟩:=frame_ex hfr
 obtain⟨g1,g2,s2,s3,s4,s5,s7,s8,s10,g3⟩:=hfr
 have e2:=hu 2 _ s2
 have e3:=hu 3 _ s3
 have e4:=hu 4 _ s4
 have e5:=hu 5 _ s5
 have e7:=hu 7 _ s7
 have e8:=hu 8 _ s8
 have e10:=hu 10 _ s10
 rw[e2,e3,e4,e5,e7,e8,e10]at ha0
 subst ha0
 clear hu g1 g2 g3 e2 s2 e3 s3 e4 s4 e5 s5 e7 s7 e8 s8 e10 s10
 conv=>arg 2;whnf
 have HQ:=Lib.hid hQ
 have HVV:=Lib.hid hvv
 clear hQ hvv
 go_wp2_with fail
 refine wp_loop_fr (fun t ac wr=>∃ (i2:Nat) (m:MkSt),t=v-i2∧i2≤v∧Fr [(2,.pointer (some ⟨r,0,none⟩)),(3,.pointer (some ⟨mb,0,none⟩)),(4,.int .i64 n),(5,.slice (some ⟨tb,0,none⟩) n n),(7,.slice (some ⟨pb,0,none⟩) n n),(8,.int .i64 b),(10,.int .i64 i2)] ac∧MSt w (exP r pb ph) mb bb tb (.slice sa sl sc) l n rows m wr∧TosOk rows n m.bks∧PhI ph n b i2 m∧Hd x A (3*b+i2) m) v ⟨0,m,rfl,Nat.zero_le _,(fr_mk rfl rfl (sl_cons rfl (sl_cons rfl (sl_cons rfl (sl_cons rfl (sl_cons rfl (sl_cons rfl (sl_cons rfl (sl_nil _))))))))),hst,htos,hphi,hhd⟩ ?_
 ·clear hst htos hphi hhd m
  intro t a1 wr K hJ hK
  have HK9:=Lib.hid hK
  clear hK
  obtain⟨i2,m,rfl,hi2,hf,hst,htos,hphi,hhd⟩:=hJ
  obtain⟨u,ha0,hu⟩:=frame_ex hf
  obtain⟨g1,g2,s2,s3,s4,s5,s7,s8,s10,g3⟩:=hf
  have e2:=hu 2 _ s2
  have e3:=hu 3 _ s3
  have e4:=hu 4 _ s4
  have e5:=hu 5 _ s5
  have e7:=hu 7 _ s7
  have e8:=hu 8 _ s8
  have e10:=hu 10 _ s10
  rw[e2,e3,e4,e5,e7,e8,e10]at ha0
  subst ha0
  clear hu g1 g2 g3 e2 s2 e3 s3 e4 s4 e5 s5 e7 s7 e8 s8 e10 s10
  have HST4:=Lib.hid hst
  have HTO4:=Lib.hid htos
  have HPH4:=Lib.hid hphi
  have HHD4:=Lib.hid hhd
  have hpc:=hst.phAt.cell b
  have hpl:=hst.phAt.lt
  rw[List.getElem?_toArray,List.getElem?_map,HVV.out]at hpc
  replace hpc:wr.cell? ⟨pb,b,none⟩=some (.int .i64 (v:Int)):=hpc
  clear hst htos hphi hhd
  by_cases hlt2:i2<v
  ·obtain⟨k,hk⟩:=HST4.out.at hlt
   have HK:=Lib.hid hk
   have hko:=HST4.out.ok.each k (List.mem_of_getElem? hk)
   obtain⟨fa,fc,hfv⟩:=own_shape (show wr.ownsRow _ _ _ _ _ _ from hko.phis)
   rw[HPH4.out.cur k hk]at hfv
   have HFV:=Lib.hid hfv
   have hbx:=HST4.out.box
   have hph0:PhPh (CE (exP r pb ph)) mb (.slice (some ⟨bb,0,none⟩) n n) (.slice sa sl sc) l wr m bb 0 wr.drew:=⟨fun _=>⟨HST4.out.ok.keep ((Since.refl _).drew),(Since.refl _).drew⟩,fun e=>(by cases e),fun e=>absurd rfl e,hbx.cell 3,hbx.lt,HST4.out.blkAt,fun q hq=>HST4.out.ok.ltOwnC hq⟩
   have HPH0:=Lib.hid hph0
   have hc0:=HST4.out.cell hk (show 0<6 by decide)
   rw[show (fbcells k)[0]? = some k.phv from rfl,hfv,Nat.add_zero]at hc0
   have HC0:=Lib.hid hc0
   have hnx:0≤m.next∧m.next≤100000:=⟨HST4.out.ok.next0,by have:=HHD4.out.next;omega⟩
   have HNX:=Lib.hid hnx
   have hi10:i2≤3:=by omega
   clear hk hko hfv hbx hph0 hc0 hnx
   go_wp2_with fail
   clear hpc hpl
   refine wp_region_one_t 20 19 [16,19] [0,0,0,0,0,0,0,0,0,0,0,0,0,0,0,0,0,1,1,1] [2,2,2,2,2,2,1,1,1,1,1,1,1,1,1,0,0,1,1,1] [0,0,0,0,0,0,0,0,0,0,0,0,0,0,0,0,1,0,0,1] (fun q=>q=mb∨(Value.slice fa i2 fc).ownBlock=some q) (fun q=>q=mb) (fun q e=>.inl e) (PhPh (CE (exP r pb ph)) mb (.slice (some ⟨bb,0,none⟩) n n) (.slice sa sl sc) l wr m bb) rfl (by decide +kernel) (by decide +kernel) (by decide +kernel) (by decide) (by decide +kernel)
    [Is (.pointer (some ⟨mb,0,none⟩)),Is (.pointer (some ⟨mb,0,none⟩)),Is (.pointer (some ⟨mb,2,none⟩)),Is (.pointer (some ⟨mb,3,none⟩)),Is (.slice (some ⟨bb,0,none⟩) n n),Is (.int .i64 b),Is (.pointer (some ⟨mb,0,none⟩)),Is (.pointer (some ⟨mb,0,none⟩)),Is (.pointer (some ⟨mb,2,none⟩)),Is (.pointer (some ⟨mb,3,none⟩)),Is (.slice (some ⟨bb,0,none⟩) n n),Is (.int .i64 b),Is (.pointer (some ⟨bb,b*6,none⟩)),Is (.pointer (some ⟨bb,b*6,none⟩)),Is (.slice fa i2 fc),Is (.pointer (some ⟨mb,0,none⟩)),Is (.int .i64 m.next),Is (.agg #[.int .i64 m.next,.slice none 0 0]),OnePhi (fun q=>q=mb∨(Value.slice fa i2 fc).ownBlock=some q) m.next,AppPh (CE (exP r pb ph)) mb (.slice (some ⟨bb,0,none⟩) n n) (.slice sa sl sc) l wr m (.slice fa i2 fc) (k.phis++[⟨m.next,[],.slice none 0 0⟩])]
    (by repeat (first | exact trivial | refine⟨fun h=>absurd rfl h,?_⟩ | refine⟨fun _=>Is.stableT _ _,?_⟩ | refine⟨fun _=>Any.stableT _,?_⟩ | refine⟨fun _=>OnePhi.stableT _ _,?_⟩)) (by repeat (first | exact trivial | refine⟨Is.stableT _ _,?_⟩ | refine⟨Any.stableT _,?_⟩ | refine⟨OnePhi.stableT2 _,?_⟩ | refine⟨AppPh.stableT _ _ _ _ _ _ _ _ _,?_⟩)) HPH0.out ⟨?_,?_,?_,?_,?_,?_,?_,?_,?_,?_,?_,?_,?_,?_,?_,?_,?_,?_,?_,?_,trivial⟩ ?_
   rotate_right
   ·intro vs w5 ht hph hk
    simp only[List.take,List.drop,putAll,Act.put,KnowsAll,nthF,Is,List.setIfInBounds_toArray,List.set_cons_zero,List.set_cons_succ,Nat.reduceAdd]at hk ⊢
    try simp only[hk]
    obtain⟨wa,hoka,hmva,hta0,hnew,hown,_⟩:AppPh (CE (exP r pb ph)) mb (.slice (some ⟨bb,0,none⟩) n n) (.slice sa sl sc) l wr m (.slice fa i2 fc) (k.phis++[⟨m.next,[],.slice none 0 0⟩]) (vs 19) w5:=by exact hk.2.2.2.2.2.2.2.2.2.2.2.2.2.2.2.2.2.2.2.1
    have hta:=turn_without hta0 hoka.made (hph.three (by decide))
    clear hta0
    generalize vs 19=nv at *
    have hbc:w5.cell? ⟨bb,b*6,none⟩=some (.slice fa i2 fc):=(hph.blk.cell (b*6)).trans ((HST4.out.blkAt.cell (b*6)).symm.trans HC0.out)
    have hbf:=hph.blk.frozen (b*6)
    have hbl:=hph.blk.lt
    have HOKA:=Lib.hid hoka
    have HMVA:=Lib.hid hmva
    have HTA:=Lib.hid hta
    have HNEW:=Lib.hid hnew
    have HOWN:=Lib.hid hown
    obtain⟨na,nc,hnv⟩:=own_shape (show w5.ownsRow _ _ _ _ _ _ from hown)
    rw[show (k.phis++[(⟨m.next,[],.slice none 0 0⟩:FPhi)]).length=i2+1 from by rw[List.length_append,HPH4.out.cur k HK.out];rfl]at hnv
    subst hnv
    clear hk hph ht hoka hmva hta hnew hown
    go_wp2
    have hadd:=HOKA.out.addPhi (bb:=bb) (k:=k) (b:=b) HK.out rfl HOWN.out (by rw[HFV.out];exact HTA.out) (by rw[HFV.out];exact HNEW.out) ⟨.inl ⟨none,rfl,rfl⟩,Stays.nil _ _⟩
    have HADD:=Lib.hid (HST4.out.step hadd.1 (HMVA.out.s.trans hadd.2) (by simp))
    clear hadd
    exact HK9.out (v-(i2+1)) _ _ (by omega) ⟨i2+1,_,rfl,by omega,(fr_mk rfl rfl (sl_cons rfl (sl_cons rfl (sl_cons rfl (sl_cons rfl (sl_cons rfl (sl_cons rfl (sl_cons rfl (sl_nil _))))))))),HADD.out,HTO4.out.set (fun r hr=>HTO4.out b k r hlt HK.out hr),HPH4.out.add HK.out rfl ⟨⟨HNX.out.1,by show m.next<m.next+1;omega⟩,rfl⟩ rfl rfl,⟨HHD4.out.at_,by have:=HHD4.out.next;show m.next+1≤_;omega,HHD4.out.params,HHD4.out.live,fun c hc=>by
     rcases mem_set_idx hc with rfl|⟨j,_,hj⟩
     ·exact HHD4.out.ins k (List.mem_of_getElem? HK.out)
     ·exact HHD4.out.ins c (List.mem_of_getElem? hj)⟩⟩
   all_goals
    intro p vs w5 hlo hhi ht hph hk
    simp only[List.take,putAll,Act.put,Knows,nthF,Is,List.setIfInBounds_toArray,List.set_cons_zero,List.set_cons_succ,Nat.reduceAdd]at hk ⊢
    try simp only[hk]
   ·go_wp2
    exact⟨_,rfl,rfl,Turn.refl _ _,hph⟩
   ·have hl:=hph.lmb
    go_wp2
    exact⟨_,rfl,rfl,Turn.refl _ _,hph⟩
   ·go_wp2
    exact⟨_,rfl,rfl,Turn.refl _ _,hph⟩
   ·go_wp2
    exact⟨_,rfl,rfl,Turn.refl _ _,hph⟩
   ·have hc:=hph.c3
    have hl:=hph.lmb
    go_wp2
    exact⟨_,rfl,rfl,Turn.refl _ _,hph⟩
   ·go_wp2
    exact⟨_,rfl,rfl,Turn.refl _ _,hph⟩
   ·go_wp2
    exact⟨_,rfl,rfl,Turn.refl _ _,hph⟩
   ·have hl:=hph.lmb
    go_wp2
    exact⟨_,rfl,rfl,Turn.refl _ _,hph⟩
   ·go_wp2
    exact⟨_,rfl,rfl,Turn.refl _ _,hph⟩
   ·go_wp2
    exact⟨_,rfl,rfl,Turn.refl _ _,hph⟩
   ·have hc:=hph.c3
    have hl:=hph.lmb
    go_wp2
    exact⟨_,rfl,rfl,Turn.refl _ _,hph⟩
   ·go_wp2
    exact⟨_,rfl,rfl,Turn.refl _ _,hph⟩
   ·have hb6:b<n:=hlt
    go_wp2
    exact⟨_,rfl,rfl,Turn.refl _ _,hph⟩
   ·go_wp2
    exact⟨_,rfl,rfl,Turn.refl _ _,hph⟩
   ·have hc:=(hph.blk.cell (b*6)).trans ((HST4.out.blkAt.cell (b*6)).symm.trans HC0.out)
    have hl:=hph.blk.lt
    go_wp2
    exact⟨_,rfl,rfl,Turn.refl _ _,hph⟩
   ·go_wp2
    exact⟨_,rfl,rfl,Turn.refl _ _,hph⟩
   ·obtain⟨hok,hsn⟩:=hph.one (by omega)
    have HOK:=Lib.hid hok
    have HSN:=Lib.hid hsn
    have HPP:=Lib.hid hph
    clear hok hsn hph ht
    go_wp2_with fail
    refine (mk_fresh0 HOK.out HNX.out).mono ?_
    rintro e w6 ⟨rfl,hok6,hmv6,ht6⟩
    go_wp2
    exact⟨_,rfl,rfl,ht6,⟨fun e=>(by omega),fun _=>⟨hok6,Mv.since HSN.out hmv6⟩,fun _=>hok6.made,(show HeapIs w6 mb _ _ from hok6.made).cell 3,(show HeapIs w6 mb _ _ from hok6.made).lt,hok6.bbAt rfl,fun q hq=>Nat.lt_of_lt_of_le (HPP.out.lt q hq) ht6.size⟩⟩
   ·go_wp2
    exact⟨_,rfl,rfl,Turn.refl _ _,hph⟩
   ·have hlt3:=hph.lt
    go_wp2
    refine⟨_,rfl,onephi_new _ (fun e=>?_),(Turn.refl _ _).alloc _,hph.keep ((Since.refl _).alloc _)⟩
    rcases e with e|e
    ·have:=hph.lmb;omega
    ·have h9:=hph.lt w5.heap.size (.inl (.inr (.inr (.inr ⟨k,List.mem_of_getElem? HK.out,.inr (by rw[HFV.out];exact e)⟩))));omega
   ·obtain⟨hk14,⟨oq,ho1,ho2,ho3⟩,hk3⟩:=hk
    obtain⟨hok,hmv⟩:=hph.two (by omega)
    rw[ho1]
    have HOK:=Lib.hid hok
    have HMV:=Lib.hid hmv
    have HO2:=Lib.hid ho2
    have HPP:=Lib.hid hph
    clear hk14 hk3 ho1 ho2 hok hmv ht hph
    have hko:=HOK.out.each k (List.mem_of_getElem? HK.out)
    have hrow:=hko.phis
    rw[HFV.out]at hrow
    have HROW:=Lib.hid hrow
    have HCUR:=Lib.hid (HPH4.out.cur k HK.out)
    have HB1:=Lib.hid (HPP.out.three (by omega))
    have HNE:=Lib.hid (show ¬ (Value.slice fa i2 fc).ownBlock=some mb from fun e=>HOK.out.mb_phis (List.mem_of_getElem? HK.out) (by rw[HFV.out];exact e))
    clear hko hrow
    go_wp2_with (refine wpList_append_one2 (base:=0) fpcells 2 fpcells_len (by decide) rfl _ _ 141 rfl 147 (.agg #[.int .i64 0,.slice none 0 0]) 32 Try.underlying141 (by kernel_rfl) rfl (.slice fa i2 fc) k.phis ⟨m.next,[],.slice none 0 0⟩ oq 1 147 rfl rfl HROW.out HO2.out (by intro u hu;simp only[fpcells,List.mem_cons,List.not_mem_nil,or_false]at hu;rcases hu with rfl | rfl<;>rfl) (by rw[HCUR.out];unfold maxLen;omega) (by rw[HCUR.out];omega) (Nat.zero_le _) ?_;intro v' w' hown' ht' hnew')
    exact⟨_,rfl,⟨w5,HOK.out,HMV.out,ht'.mono (fun q _ e=>.inl e),hnew',hown',fun q hq e=>own_not hown' (HB1.out.turn ht' HNE.out) (by decide) (e ▸ hq)⟩,ht'.mono (fun q _ e=>.inr e),⟨fun e=>(by omega),fun e=>(by omega),fun _=>HB1.out.turn ht' HNE.out,(ht'.cell (p:=⟨mb,3,none⟩) HPP.out.lmb (fun e=>HOK.out.mb_phis (List.mem_of_getElem? HK.out) (by rw[HFV.out];exact e))).trans HPP.out.c3,Nat.lt_of_lt_of_le HPP.out.lmb ht'.size,HPP.out.blk.turn ht' (fun e=>own_not (HOK.out.each k (List.mem_of_getElem? HK.out)).phis (HOK.out.bbAt rfl) (by decide) (by rw[HFV.out];exact e)),fun q hq=>Nat.lt_of_lt_of_le (HPP.out.lt q hq) ht'.size⟩⟩
  ·obtain rfl:v=i2:=by omega
   go_wp2_with fail
   exact HQ.out _ _ m (fr_mk rfl rfl (sl_cons rfl (sl_cons rfl (sl_cons rfl (sl_cons rfl (sl_cons rfl (sl_cons rfl (sl_nil _)))))))) HST4.out HTO4.out (HPH4.out.leave HST4.out.len HVV.out) (HHD4.out.more (Nat.le_refl _) (by omega))
set_option maxHeartbeats 8000000 in
set_option maxRecDepth 1000000 in
theorem mk_phss (w:World) (sa:Option Addr) (sl sc:Nat) (l:List Int) (rows:List (Value × List Int)) (m:MkSt) (r mb bb n tb pb:Nat) (ph:List Int) (x:Int) (a0:Act) (w1:World) (Q0:Exit→Act→World→Prop) (hfr:Fr [(2,.pointer (some ⟨r,0,none⟩)),(3,.pointer (some ⟨mb,0,none⟩)),(4,.int .i64 n),(5,.slice (some ⟨tb,0,none⟩) n n),(7,.slice (some ⟨pb,0,none⟩) n n),(8,.int .i64 (1:Nat))] a0)
  (hst:MSt w (exP r pb ph) mb bb tb (.slice sa sl sc) l n rows m w1) (hn9:1≤n∧n≤9) (hx5:x≤100) (htos:TosOk rows n m.bks) (hphi:PhI ph n n 0 m) (hz:∀ (j:Nat) (v:Int),1≤j→ph[j]? = some v→v=0) (hhd:Hd x (102+2*1) (3*1) m)
  (hQ:∀ a1 w2 (ph:List Int) (m:MkSt),Fr [(2,.pointer (some ⟨r,0,none⟩)),(3,.pointer (some ⟨mb,0,none⟩)),(4,.int .i64 n),(5,.slice (some ⟨tb,0,none⟩) n n),(7,.slice (some ⟨pb,0,none⟩) n n)] a1→MSt w (exP r pb ph) mb bb tb (.slice sa sl sc) l n rows m w2→TosOk rows n m.bks→PhI ph n n 0 m→Hd x (102+2*n) (3*n) m→Q0 .normal a1 w2):Code.wp Try.prog (mkCode [1,1,1,1,1,1,1,1,1,0,1]) Q0 a0 w1:=by
 obtain⟨u,ha0,hu⟩:=frame_ex hfr
 obtain⟨g1,g2,s2,s3,s4,s5,s7,s8,g3⟩:=hfr
 have e2:=hu 2 _ s2
 have e3:=hu 3 _ s3
 have e4:=hu 4 _ s4
 have e5:=hu 5 _ s5
 have e7:=hu 7 _ s7
 have e8:=hu 8 _ s8
 rw[e2,e3,e4,e5,e7,e8]at ha0
 subst ha0
 clear hu g1 g2 g3 e2 s2 e3 s3 e4 s4 e5 s5 e7 s7 e8 s8
 conv=>arg 2;whnf
 have HQ:=Lib.hid hQ
 clear hQ
 go_wp2_with fail
 refine wp_loop_fr (fun t ac wr=>∃ (b:Nat) (ph:List Int) (m:MkSt),t=n-b∧(1≤b∧b≤n)∧Fr [(2,.pointer (some ⟨r,0,none⟩)),(3,.pointer (some ⟨mb,0,none⟩)),(4,.int .i64 n),(5,.slice (some ⟨tb,0,none⟩) n n),(7,.slice (some ⟨pb,0,none⟩) n n),(8,.int .i64 b)] ac∧MSt w (exP r pb ph) mb bb tb (.slice sa sl sc) l n rows m wr∧TosOk rows n m.bks∧PhI ph n n 0 m∧(∀ (j:Nat) (v:Int),b≤j→ph[j]? = some v→v=0)∧Hd x (102+2*b) (3*b) m) (n-1) ⟨1,ph,m,rfl,⟨Nat.le_refl _,hn9.1⟩,(fr_mk rfl rfl (sl_cons rfl (sl_cons rfl (sl_cons rfl (sl_cons rfl (sl_cons rfl (sl_cons rfl (sl_nil _)))))))),hst,htos,hphi,hz,hhd⟩ ?_
 ·clear hst htos hphi hz hhd m ph
  intro t a1 wr K hJ hK
  have HK9:=Lib.hid hK
  clear hK
  obtain⟨b,ph,m,rfl,⟨hb1,hbn⟩,hf,hst,htos,hphi,hz,hhd⟩:=hJ
  obtain⟨u,ha0,hu⟩:=frame_ex hf
  obtain⟨g1,g2,s2,s3,s4,s5,s7,s8,g3⟩:=hf
  have e2:=hu 2 _ s2
  have e3:=hu 3 _ s3
  have e4:=hu 4 _ s4
  have e5:=hu 5 _ s5
  have e7:=hu 7 _ s7
  have e8:=hu 8 _ s8
  rw[e2,e3,e4,e5,e7,e8]at ha0
  subst ha0
  clear hu g1 g2 g3 e2 s2 e3 s3 e4 s4 e5 s5 e7 s7 e8 s8
  have HST2:=Lib.hid hst
  have HTOS:=Lib.hid htos
  have HPHI:=Lib.hid hphi
  have HZ:=Lib.hid hz
  have HHD:=Lib.hid hhd
  clear hst htos hphi hz hhd
  by_cases hlt:b<n
  ·have hbx:=HST2.out.box
   have hb2:=hbx.cell 2
   have hb3:=hbx.cell 3
   have hl3:=hbx.lt
   have hpr:=preds_any m.params m.bks (.slice (some ⟨bb,0,none⟩) n n) wr HST2.out.fn.tos (by rw[HST2.out.len];omega) b
   have HPR:=Lib.hid hpr
   clear hbx hpr
   go_wp2_with fail
   refine HPR.out.mono ?_
   rintro e w9 ⟨pv,ps,rfl,hpown,hs9,hps⟩
   obtain⟨pa,pc,hpv⟩:=own_shape hpown
   obtain⟨pl,hpl⟩:∃ z,ps.length=z:=⟨_,rfl⟩
   rw[hpl]at hpv
   subst hpv
   have HST9:=Lib.hid (HST2.out.keep hs9)
   have h0:ph[b]? = some 0:=by
    obtain⟨v,hv,_⟩:=HPHI.out.at hlt
    rw[hv,HZ.out b v (Nat.le_refl _) hv]
   have H0:=Lib.hid h0
   clear hpown hs9 hps hpl h0 hb2 hb3 hl3 HST2 HPR
   by_cases hgt:1<pl
   ·go_wp2_with fail
    refine (mk_take HST9.out.ok 4 (by decide) (by have:=HHD.out.at_;omega)).mono ?_
    rintro e wa ⟨ma,⟨y,rfl,⟨hy0,hy1⟩,hma⟩,hoa,mva⟩
    obtain⟨yn,rfl⟩:=Int.eq_ofNat_of_zero_le hy0
    have HSA:=Lib.hid (HST9.out.mv hoa mva)
    have HMA:=Lib.hid hma
    have hpc:=HSA.out.phAt.cell b
    rw[List.getElem?_toArray,List.getElem?_map,H0.out]at hpc
    replace hpc:wa.cell? ⟨pb,b,none⟩=some (.int .i64 0):=hpc
    have hpl:=HSA.out.phAt.lt
    have hpf:=HSA.out.phAt.frozen b
    have HHI:=Lib.hid (show Hd x (102+2*b+1) (3*b+0) ma from HHD.out.step (a':=1) (k':=0) (by rw[HMA.out]) (by rw[HMA.out]) (by rw[HMA.out];exact Nat.le_refl _) (by rw[HMA.out];simp) (by rw[HMA.out]))
    have hyn3:yn≤3:=by omega
    clear hoa mva hma hy0 hy1
    go_upto_block 4 with fail
    refine mk_phs w sa sl sc l rows ma r mb bb n tb pb b yn (102+2*b+1) (ph.set b yn) x _ _ _ (fr_mk rfl rfl (sl_cons rfl (sl_cons rfl (sl_cons rfl (sl_cons rfl (sl_cons rfl (sl_cons rfl (sl_cons rfl (sl_nil _))))))))) (HSA.out.setP b yn) hn9 hlt (List.getElem?_set_self (by rw[HPHI.out.len];exact hlt)) (by omega) (by omega) (by rw[HMA.out];exact HTOS.out) (HPHI.out.enter (by rw[HMA.out]) (by rw[HMA.out];exact Int.le_refl _) hlt hb1 H0.out (by omega)) HHI.out ?_
    intro a1 w3 m3 hf hst3 hto3 hph3 hhd3
    obtain⟨u,ha0,hu⟩:=frame_ex hf
    obtain⟨g1,g2,s2,s3,s4,s5,s7,s8,g3⟩:=hf
    have e2:=hu 2 _ s2
    have e3:=hu 3 _ s3
    have e4:=hu 4 _ s4
    have e5:=hu 5 _ s5
    have e7:=hu 7 _ s7
    have e8:=hu 8 _ s8
    rw[e2,e3,e4,e5,e7,e8]at ha0
    subst ha0
    clear hu g1 g2 g3 e2 s2 e3 s3 e4 s4 e5 s5 e7 s7 e8 s8
    have HST3:=Lib.hid hst3
    have HTO3:=Lib.hid hto3
    have HPH3:=Lib.hid hph3
    have HHD3:=Lib.hid hhd3
    clear hst3 hto3 hph3 hhd3
    go_wp2_with fail
    exact HK9.out (n-(b+1)) _ _ (by omega) ⟨b+1,_,m3,rfl,⟨by omega,by omega⟩,(fr_mk rfl rfl (sl_cons rfl (sl_cons rfl (sl_cons rfl (sl_cons rfl (sl_cons rfl (sl_cons rfl (sl_nil _)))))))),HST3.out,HTO3.out,HPH3.out,(fun j v hj hv=>HZ.out j v (by omega) (by rw[List.getElem?_set_ne (by omega)]at hv;exact hv)),HHD3.out.more (by omega) (by omega)⟩
   ·have hgt2:¬ (1:Int)<(pl:Int):=by omega
    go_wp2_with fail
    refine (mk_take HST9.out.ok 6 (by decide) (by have:=HHD.out.at_;omega)).mono ?_
    rintro e wa ⟨ma,⟨y,rfl,⟨hy0,hy1⟩,hma⟩,hoa,mva⟩
    have HSA:=Lib.hid (HST9.out.mv hoa mva)
    have HMA:=Lib.hid hma
    have HHI:=Lib.hid (show Hd x (102+2*b+1) (3*b+0) ma from HHD.out.step (a':=1) (k':=0) (by rw[HMA.out]) (by rw[HMA.out]) (by rw[HMA.out];exact Nat.le_refl _) (by rw[HMA.out];simp) (by rw[HMA.out]))
    clear hoa mva hma
    by_cases hyz:y=0
    ·subst hyz
     have hpc:=HSA.out.phAt.cell b
     rw[List.getElem?_toArray,List.getElem?_map,H0.out]at hpc
     replace hpc:wa.cell? ⟨pb,b,none⟩=some (.int .i64 0):=hpc
     have hpl:=HSA.out.phAt.lt
     have hpf:=HSA.out.phAt.frozen b
     clear hy0 hy1
     go_upto_block 4 with fail
     refine mk_phs w sa sl sc l rows ma r mb bb n tb pb b 1 (102+2*b+1) (ph.set b 1) x _ _ _ (fr_mk rfl rfl (sl_cons rfl (sl_cons rfl (sl_cons rfl (sl_cons rfl (sl_cons rfl (sl_cons rfl (sl_cons rfl (sl_nil _))))))))) (HSA.out.setP b 1) hn9 hlt (List.getElem?_set_self (by rw[HPHI.out.len];exact hlt)) (by omega) (by omega) (by rw[HMA.out];exact HTOS.out) (HPHI.out.enter (by rw[HMA.out]) (by rw[HMA.out];exact Int.le_refl _) hlt hb1 H0.out (by omega)) HHI.out ?_
     intro a1 w3 m3 hf hst3 hto3 hph3 hhd3
     obtain⟨u,ha0,hu⟩:=frame_ex hf
     obtain⟨g1,g2,s2,s3,s4,s5,s7,s8,g3⟩:=hf
     have e2:=hu 2 _ s2
     have e3:=hu 3 _ s3
     have e4:=hu 4 _ s4
     have e5:=hu 5 _ s5
     have e7:=hu 7 _ s7
     have e8:=hu 8 _ s8
     rw[e2,e3,e4,e5,e7,e8]at ha0
     subst ha0
     clear hu g1 g2 g3 e2 s2 e3 s3 e4 s4 e5 s5 e7 s7 e8 s8
     have HST3:=Lib.hid hst3
     have HTO3:=Lib.hid hto3
     have HPH3:=Lib.hid hph3
     have HHD3:=Lib.hid hhd3
     clear hst3 hto3 hph3 hhd3
     go_wp2_with fail
     exact HK9.out (n-(b+1)) _ _ (by omega) ⟨b+1,_,m3,rfl,⟨by omega,by omega⟩,(fr_mk rfl rfl (sl_cons rfl (sl_cons rfl (sl_cons rfl (sl_cons rfl (sl_cons rfl (sl_cons rfl (sl_nil _)))))))),HST3.out,HTO3.out,HPH3.out,(fun j v hj hv=>HZ.out j v (by omega) (by rw[List.getElem?_set_ne (by omega)]at hv;exact hv)),HHD3.out.more (by omega) (by omega)⟩
    ·have hyq:(y==0)=false:=by simpa using hyz
     go_upto_block 4 with fail
     refine mk_phs w sa sl sc l rows ma r mb bb n tb pb b 0 (102+2*b+1) ph x _ _ _ (fr_mk rfl rfl (sl_cons rfl (sl_cons rfl (sl_cons rfl (sl_cons rfl (sl_cons rfl (sl_cons rfl (sl_cons rfl (sl_nil _))))))))) HSA.out hn9 hlt H0.out (by omega) (by omega) (by rw[HMA.out];exact HTOS.out) (HPHI.out.enter0 (by rw[HMA.out]) (by rw[HMA.out];exact Int.le_refl _) hlt hb1 H0.out) HHI.out ?_
     intro a1 w3 m3 hf hst3 hto3 hph3 hhd3
     obtain⟨u,ha0,hu⟩:=frame_ex hf
     obtain⟨g1,g2,s2,s3,s4,s5,s7,s8,g3⟩:=hf
     have e2:=hu 2 _ s2
     have e3:=hu 3 _ s3
     have e4:=hu 4 _ s4
     have e5:=hu 5 _ s5
     have e7:=hu 7 _ s7
     have e8:=hu 8 _ s8
     rw[e2,e3,e4,e5,e7,e8]at ha0
     subst ha0
     clear hu g1 g2 g3 e2 s2 e3 s3 e4 s4 e5 s5 e7 s7 e8 s8
     have HST3:=Lib.hid hst3
     have HTO3:=Lib.hid hto3
     have HPH3:=Lib.hid hph3
     have HHD3:=Lib.hid hhd3
     clear hst3 hto3 hph3 hhd3
     go_wp2_with fail
     exact HK9.out (n-(b+1)) _ _ (by omega) ⟨b+1,_,m3,rfl,⟨by omega,by omega⟩,(fr_mk rfl rfl (sl_cons rfl (sl_cons rfl (sl_cons rfl (sl_cons rfl (sl_cons rfl (sl_cons rfl (sl_nil _)))))))),HST3.out,HTO3.out,HPH3.out,(fun j v hj hv=>HZ.out j v (by omega) hv),HHD3.out.more (by omega) (by omega)⟩
  ·obtain rfl:n=b:=by omega
   go_wp2_with fail
   exact HQ.out _ _ ph m (fr_mk rfl rfl (sl_cons rfl (sl_cons rfl (sl_cons rfl (sl_cons rfl (sl_cons rfl (sl_nil _))))))) HST2.out HTOS.out HPHI.out HHD.out
end Go.Proofs.Ytkpbmbhejpmboaa
