/- MkPhs MkPhs2 MkAway MkIns MkTurn -/
import Derived.Test.YtmhojfpidedjeaaGreatDoorTq37
namespace Go.Proofs.YtmhojfpidedjeaaGreatDoor
open Go.RowKit
set_option linter.unusedVariables false
set_option maxHeartbeats 8000000 in
set_option maxRecDepth 1000000 in
theorem mk_phs (w:World) (sa:Option Addr) (sl sc:Nat) (l:List Int) (rows:List (Value × List Int)) (m:MkSt) (r mb bb n tb pb b v A:Nat) (ph:List Int) (x:Int) (a0:Act) (w1:World) (Q0:Exit→Act→World→Prop) (hfr:Fr [(2,.pointer (some ⟨r,0,none⟩)),(3,.pointer (some ⟨mb,0,none⟩)),(4,.int .i64 n),(5,.slice (some ⟨tb,0,none⟩) n n),(7,.slice (some ⟨pb,0,none⟩) n n),(8,.int .i64 b),(10,.int .i64 0)] a0)
  (hst:MSt w (exP r pb ph) mb bb tb (.slice sa sl sc) l n rows m w1) (hn9:1≤n∧n≤9) (hlt:b<n) (hvv:ph[b]? = some (v:Int)) (hv3:v≤3) (hx5:x≤100) (htos:TosOk rows n m.bks) (hphi:PhI ph n b 0 m) (hhd:Hd x A (3*b+0) m)
  (hQ:∀ a1 w2 (m:MkSt),Fr [(2,.pointer (some ⟨r,0,none⟩)),(3,.pointer (some ⟨mb,0,none⟩)),(4,.int .i64 n),(5,.slice (some ⟨tb,0,none⟩) n n),(7,.slice (some ⟨pb,0,none⟩) n n),(8,.int .i64 b)] a1→MSt w (exP r pb ph) mb bb tb (.slice sa sl sc) l n rows m w2→TosOk rows n m.bks→PhI ph n n 0 m→Hd x A (3*b+3) m→Q0 .normal a1 w2):Code.wp Tryz.prog (mkCode [1,1,1,1,1,1,1,1,1,0,1,0,0,1,0,0,1,1,1]) Q0 a0 w1:=by
 obtain⟨u,ha0,hu⟩:=frame_ex hfr
 obtain⟨g1,g2,s2,s3,s4,s5,s7,s8,s10,g3⟩:=hfr
 have e2:=hu 2 _ s2
 have e3:=hu 3 _ s3
 have e4:=hu 4 _ s4
 have e5:=hu 5 _ s5
 have e7:=hu 7 _ s7
 have e8:=hu 8 _ s8
 have e10:=hu 10 _ s10
 rw[e2,e3,e4,e5,e7,e8,e10]at ha0
 subst ha0
 clear hu g1 g2 g3 e2 s2 e3 s3 e4 s4 e5 s5 e7 s7 e8 s8 e10 s10
 conv=>arg 2;whnf
 have HQ:=Lib.hid hQ
 have HVV:=Lib.hid hvv
 clear hQ hvv
 go_wp2_with fail
 refine wp_loop_fr (fun t ac wr=>∃ (i2:Nat) (m:MkSt),t=v-i2∧i2≤v∧Fr [(2,.pointer (some ⟨r,0,none⟩)),(3,.pointer (some ⟨mb,0,none⟩)),(4,.int .i64 n),(5,.slice (some ⟨tb,0,none⟩) n n),(7,.slice (some ⟨pb,0,none⟩) n n),(8,.int .i64 b),(10,.int .i64 i2)] ac∧MSt w (exP r pb ph) mb bb tb (.slice sa sl sc) l n rows m wr∧TosOk rows n m.bks∧PhI ph n b i2 m∧Hd x A (3*b+i2) m) v ⟨0,m,rfl,Nat.zero_le _,(fr_mk rfl rfl (sl_cons rfl (sl_cons rfl (sl_cons rfl (sl_cons rfl (sl_cons rfl (sl_cons rfl (sl_cons rfl (sl_nil _))))))))),hst,htos,hphi,hhd⟩ ?_
 ·clear hst htos hphi hhd m
  intro t a1 wr K hJ hK
  have HK9:=Lib.hid hK
  clear hK
  obtain⟨i2,m,rfl,hi2,hf,hst,htos,hphi,hhd⟩:=hJ
  obtain⟨u,ha0,hu⟩:=frame_ex hf
  obtain⟨g1,g2,s2,s3,s4,s5,s7,s8,s10,g3⟩:=hf
  have e2:=hu 2 _ s2
  have e3:=hu 3 _ s3
  have e4:=hu 4 _ s4
  have e5:=hu 5 _ s5
  have e7:=hu 7 _ s7
  have e8:=hu 8 _ s8
  have e10:=hu 10 _ s10
  rw[e2,e3,e4,e5,e7,e8,e10]at ha0
  subst ha0
  clear hu g1 g2 g3 e2 s2 e3 s3 e4 s4 e5 s5 e7 s7 e8 s8 e10 s10
  have HST4:=Lib.hid hst
  have HTO4:=Lib.hid htos
  have HPH4:=Lib.hid hphi
  have HHD4:=Lib.hid hhd
  have hpc:=hst.phAt.cell b
  have hpl:=hst.phAt.lt
  rw[List.getElem?_toArray,List.getElem?_map,HVV.out]at hpc
  replace hpc:wr.cell? ⟨pb,b,none⟩=some (.int .i64 (v:Int)):=hpc
  clear hst htos hphi hhd
  by_cases hlt2:i2<v
  ·obtain⟨k,hk⟩:=HST4.out.at hlt
   have HK:=Lib.hid hk
   have hko:=HST4.out.ok.each k (List.mem_of_getElem? hk)
   obtain⟨fa,fc,hfv⟩:=own_shape (show wr.ownsRow _ _ _ _ _ _ from hko.phis)
   rw[HPH4.out.cur k hk]at hfv
   have HFV:=Lib.hid hfv
   have hbx:=HST4.out.box
   have hph0:PhPh (CE (exP r pb ph)) mb (.slice (some ⟨bb,0,none⟩) n n) (.slice sa sl sc) l wr m bb 0 wr.drew:=⟨fun _=>⟨HST4.out.ok.keep ((Since.refl _).drew),(Since.refl _).drew⟩,fun e=>(by cases e),fun e=>absurd rfl e,hbx.cell 3,hbx.lt,HST4.out.blkAt,fun q hq=>HST4.out.ok.ltOwnC hq⟩
   have HPH0:=Lib.hid hph0
   have hc0:=HST4.out.cell hk (show 0<6 by decide)
   rw[show (fbcells k)[0]? = some k.phv from rfl,hfv,Nat.add_zero]at hc0
   have HC0:=Lib.hid hc0
   have hnx:0≤m.next∧m.next≤100000:=⟨HST4.out.ok.next0,by have:=HHD4.out.next;omega⟩
   have HNX:=Lib.hid hnx
   have hi10:i2≤3:=by omega
   clear hk hko hfv hbx hph0 hc0 hnx
   go_wp2_with fail
   clear hpc hpl
   refine wp_region_one_t 20 19 [16,19] [0,0,0,0,0,0,0,0,0,0,0,0,0,0,0,0,0,1,1,1] [2,2,2,2,2,2,1,1,1,1,1,1,1,1,1,0,0,1,1,1] [0,0,0,0,0,0,0,0,0,0,0,0,0,0,0,0,1,0,0,1] (fun q=>q=mb∨(Value.slice fa i2 fc).ownBlock=some q) (fun q=>q=mb) (fun q e=>.inl e) (PhPh (CE (exP r pb ph)) mb (.slice (some ⟨bb,0,none⟩) n n) (.slice sa sl sc) l wr m bb) rfl (by decide +kernel) (by decide +kernel) (by decide +kernel) (by decide) (by decide +kernel)
    [Is (.pointer (some ⟨mb,0,none⟩)),Is (.pointer (some ⟨mb,0,none⟩)),Is (.pointer (some ⟨mb,2,none⟩)),Is (.pointer (some ⟨mb,3,none⟩)),Is (.slice (some ⟨bb,0,none⟩) n n),Is (.int .i64 b),Is (.pointer (some ⟨mb,0,none⟩)),Is (.pointer (some ⟨mb,0,none⟩)),Is (.pointer (some ⟨mb,2,none⟩)),Is (.pointer (some ⟨mb,3,none⟩)),Is (.slice (some ⟨bb,0,none⟩) n n),Is (.int .i64 b),Is (.pointer (some ⟨bb,b*6,none⟩)),Is (.pointer (some ⟨bb,b*6,none⟩)),Is (.slice fa i2 fc),Is (.pointer (some ⟨mb,0,none⟩)),Is (.int .i64 m.next),Is (.agg #[.int .i64 m.next,.slice none 0 0]),OnePhi (fun q=>q=mb∨(Value.slice fa i2 fc).ownBlock=some q) m.next,AppPh (CE (exP r pb ph)) mb (.slice (some ⟨bb,0,none⟩) n n) (.slice sa sl sc) l wr m (.slice fa i2 fc) (k.phis++[⟨m.next,[],.slice none 0 0⟩])]
    (by repeat (first | exact trivial | refine⟨fun h=>absurd rfl h,?_⟩ | refine⟨fun _=>Is.stableT _ _,?_⟩ | refine⟨fun _=>Any.stableT _,?_⟩ | refine⟨fun _=>OnePhi.stableT _ _,?_⟩)) (by repeat (first | exact trivial | refine⟨Is.stableT _ _,?_⟩ | refine⟨Any.stableT _,?_⟩ | refine⟨OnePhi.stableT2 _,?_⟩ | refine⟨AppPh.stableT _ _ _ _ _ _ _ _ _,?_⟩)) HPH0.out ⟨?_,?_,?_,?_,?_,?_,?_,?_,?_,?_,?_,?_,?_,?_,?_,?_,?_,?_,?_,?_,trivial⟩ ?_
   rotate_right
   ·intro vs w5 ht hph hk
    simp only[List.take,List.drop,putAll,Act.put,KnowsAll,nthF,Is,List.setIfInBounds_toArray,List.set_cons_zero,List.set_cons_succ,Nat.reduceAdd]at hk ⊢
    try simp only[hk]
    obtain⟨wa,hoka,hmva,hta0,hnew,hown,_⟩:AppPh (CE (exP r pb ph)) mb (.slice (some ⟨bb,0,none⟩) n n) (.slice sa sl sc) l wr m (.slice fa i2 fc) (k.phis++[⟨m.next,[],.slice none 0 0⟩]) (vs 19) w5:=by exact hk.2.2.2.2.2.2.2.2.2.2.2.2.2.2.2.2.2.2.2.1
    have hta:=turn_without hta0 hoka.made (hph.three (by decide))
    clear hta0
    generalize vs 19=nv at *
    have hbc:w5.cell? ⟨bb,b*6,none⟩=some (.slice fa i2 fc):=(hph.blk.cell (b*6)).trans ((HST4.out.blkAt.cell (b*6)).symm.trans HC0.out)
    have hbf:=hph.blk.frozen (b*6)
    have hbl:=hph.blk.lt
    have HOKA:=Lib.hid hoka
    have HMVA:=Lib.hid hmva
    have HTA:=Lib.hid hta
    have HNEW:=Lib.hid hnew
    have HOWN:=Lib.hid hown
    obtain⟨na,nc,hnv⟩:=own_shape (show w5.ownsRow _ _ _ _ _ _ from hown)
    rw[show (k.phis++[(⟨m.next,[],.slice none 0 0⟩:FPhi)]).length=i2+1 from by rw[List.length_append,HPH4.out.cur k HK.out];rfl]at hnv
    subst hnv
    clear hk hph ht hoka hmva hta hnew hown
    go_wp2
    have hadd:=HOKA.out.addPhi (bb:=bb) (k:=k) (b:=b) HK.out rfl HOWN.out (by rw[HFV.out];exact HTA.out) (by rw[HFV.out];exact HNEW.out) ⟨.inl ⟨none,rfl,rfl⟩,Stays.nil _ _⟩
    have HADD:=Lib.hid (HST4.out.step hadd.1 (HMVA.out.s.trans hadd.2) (by simp))
    clear hadd
    exact HK9.out (v-(i2+1)) _ _ (by omega) ⟨i2+1,_,rfl,by omega,(fr_mk rfl rfl (sl_cons rfl (sl_cons rfl (sl_cons rfl (sl_cons rfl (sl_cons rfl (sl_cons rfl (sl_cons rfl (sl_nil _))))))))),HADD.out,HTO4.out.set (fun r hr=>HTO4.out b k r hlt HK.out hr),HPH4.out.add HK.out rfl ⟨⟨HNX.out.1,by show m.next<m.next+1;omega⟩,rfl⟩ rfl rfl,⟨HHD4.out.at_,by have:=HHD4.out.next;show m.next+1≤_;omega,HHD4.out.params,HHD4.out.live,fun c hc=>by
     rcases mem_set_idx hc with rfl|⟨j,_,hj⟩
     ·exact HHD4.out.ins k (List.mem_of_getElem? HK.out)
     ·exact HHD4.out.ins c (List.mem_of_getElem? hj)⟩⟩
   all_goals
    intro p vs w5 hlo hhi ht hph hk
    simp only[List.take,putAll,Act.put,Knows,nthF,Is,List.setIfInBounds_toArray,List.set_cons_zero,List.set_cons_succ,Nat.reduceAdd]at hk ⊢
    try simp only[hk]
   ·go_wp2
    exact⟨_,rfl,rfl,Turn.refl _ _,hph⟩
   ·have hl:=hph.lmb
    go_wp2
    exact⟨_,rfl,rfl,Turn.refl _ _,hph⟩
   ·go_wp2
    exact⟨_,rfl,rfl,Turn.refl _ _,hph⟩
   ·go_wp2
    exact⟨_,rfl,rfl,Turn.refl _ _,hph⟩
   ·have hc:=hph.c3
    have hl:=hph.lmb
    go_wp2
    exact⟨_,rfl,rfl,Turn.refl _ _,hph⟩
   ·go_wp2
    exact⟨_,rfl,rfl,Turn.refl _ _,hph⟩
   ·go_wp2
    exact⟨_,rfl,rfl,Turn.refl _ _,hph⟩
   ·have hl:=hph.lmb
    go_wp2
    exact⟨_,rfl,rfl,Turn.refl _ _,hph⟩
   ·go_wp2
    exact⟨_,rfl,rfl,Turn.refl _ _,hph⟩
   ·go_wp2
    exact⟨_,rfl,rfl,Turn.refl _ _,hph⟩
   ·have hc:=hph.c3
    have hl:=hph.lmb
    go_wp2
    exact⟨_,rfl,rfl,Turn.refl _ _,hph⟩
   ·go_wp2
    exact⟨_,rfl,rfl,Turn.refl _ _,hph⟩
   ·have hb6:b<n:=hlt
    go_wp2
    exact⟨_,rfl,rfl,Turn.refl _ _,hph⟩
   ·go_wp2
    exact⟨_,rfl,rfl,Turn.refl _ _,hph⟩
   ·have hc:=(hph.blk.cell (b*6)).trans ((HST4.out.blkAt.cell (b*6)).symm.trans HC0.out)
    have hl:=hph.blk.lt
    go_wp2
    exact⟨_,rfl,rfl,Turn.refl _ _,hph⟩
   ·go_wp2
    exact⟨_,rfl,rfl,Turn.refl _ _,hph⟩
   ·obtain⟨hok,hsn⟩:=hph.one (by omega)
    have HOK:=Lib.hid hok
    have HSN:=Lib.hid hsn
    have HPP:=Lib.hid hph
    clear hok hsn hph ht
    go_wp2_with fail
    refine (mk_fresh0 HOK.out HNX.out).mono ?_
    rintro e w6 ⟨rfl,hok6,hmv6,ht6⟩
    go_wp2
    exact⟨_,rfl,rfl,ht6,⟨fun e=>(by omega),fun _=>⟨hok6,Mv.since HSN.out hmv6⟩,fun _=>hok6.made,(show HeapIs w6 mb _ _ from hok6.made).cell 3,(show HeapIs w6 mb _ _ from hok6.made).lt,hok6.bbAt rfl,fun q hq=>Nat.lt_of_lt_of_le (HPP.out.lt q hq) ht6.size⟩⟩
   ·go_wp2
    exact⟨_,rfl,rfl,Turn.refl _ _,hph⟩
   ·have hlt3:=hph.lt
    go_wp2
    refine⟨_,rfl,onephi_new _ (fun e=>?_),(Turn.refl _ _).alloc _,hph.keep ((Since.refl _).alloc _)⟩
    rcases e with e|e
    ·have:=hph.lmb;omega
    ·have h9:=hph.lt w5.heap.size (.inl (.inr (.inr (.inr ⟨k,List.mem_of_getElem? HK.out,.inr (by rw[HFV.out];exact e)⟩))));omega
   ·obtain⟨hk14,⟨oq,ho1,ho2,ho3⟩,hk3⟩:=hk
    obtain⟨hok,hmv⟩:=hph.two (by omega)
    rw[ho1]
    have HOK:=Lib.hid hok
    have HMV:=Lib.hid hmv
    have HO2:=Lib.hid ho2
    have HPP:=Lib.hid hph
    clear hk14 hk3 ho1 ho2 hok hmv ht hph
    have hko:=HOK.out.each k (List.mem_of_getElem? HK.out)
    have hrow:=hko.phis
    rw[HFV.out]at hrow
    have HROW:=Lib.hid hrow
    have HCUR:=Lib.hid (HPH4.out.cur k HK.out)
    have HB1:=Lib.hid (HPP.out.three (by omega))
    have HNE:=Lib.hid (show ¬ (Value.slice fa i2 fc).ownBlock=some mb from fun e=>HOK.out.mb_phis (List.mem_of_getElem? HK.out) (by rw[HFV.out];exact e))
    clear hko hrow
    go_wp2_with (refine wpList_append_one2 (base:=0) fpcells 2 fpcells_len (by decide) rfl _ _ 55 rfl 60 (.agg #[.int .i64 0,.slice none 0 0]) 32 Tryz.underlying55 (by kernel_rfl) rfl (.slice fa i2 fc) k.phis ⟨m.next,[],.slice none 0 0⟩ oq 1 60 rfl rfl HROW.out HO2.out (by intro u hu;simp only[fpcells,List.mem_cons,List.not_mem_nil,or_false]at hu;rcases hu with rfl | rfl<;>rfl) (by rw[HCUR.out];unfold maxLen;omega) (by rw[HCUR.out];omega) (Nat.zero_le _) ?_;intro v' w' hown' ht' hnew')
    exact⟨_,rfl,⟨w5,HOK.out,HMV.out,ht'.mono (fun q _ e=>.inl e),hnew',hown',fun q hq e=>own_not hown' (HB1.out.turn ht' HNE.out) (by decide) (e ▸ hq)⟩,ht'.mono (fun q _ e=>.inr e),⟨fun e=>(by omega),fun e=>(by omega),fun _=>HB1.out.turn ht' HNE.out,(ht'.cell (p:=⟨mb,3,none⟩) HPP.out.lmb (fun e=>HOK.out.mb_phis (List.mem_of_getElem? HK.out) (by rw[HFV.out];exact e))).trans HPP.out.c3,Nat.lt_of_lt_of_le HPP.out.lmb ht'.size,HPP.out.blk.turn ht' (fun e=>own_not (HOK.out.each k (List.mem_of_getElem? HK.out)).phis (HOK.out.bbAt rfl) (by decide) (by rw[HFV.out];exact e)),fun q hq=>Nat.lt_of_lt_of_le (HPP.out.lt q hq) ht'.size⟩⟩
  ·obtain rfl:v=i2:=by omega
   go_wp2_with fail
   exact HQ.out _ _ m (fr_mk rfl rfl (sl_cons rfl (sl_cons rfl (sl_cons rfl (sl_cons rfl (sl_cons rfl (sl_cons rfl (sl_nil _)))))))) HST4.out HTO4.out (HPH4.out.leave HST4.out.len HVV.out) (HHD4.out.more (Nat.le_refl _) (by omega))
set_option maxHeartbeats 8000000 in
set_option maxRecDepth 1000000 in
theorem mk_phss (w:World) (sa:Option Addr) (sl sc:Nat) (l:List Int) (rows:List (Value × List Int)) (m:MkSt) (r mb bb n tb pb:Nat) (ph:List Int) (x:Int) (a0:Act) (w1:World) (Q0:Exit→Act→World→Prop) (hfr:Fr [(2,.pointer (some ⟨r,0,none⟩)),(3,.pointer (some ⟨mb,0,none⟩)),(4,.int .i64 n),(5,.slice (some ⟨tb,0,none⟩) n n),(7,.slice (some ⟨pb,0,none⟩) n n),(8,.int .i64 (1:Nat))] a0)
  (hst:MSt w (exP r pb ph) mb bb tb (.slice sa sl sc) l n rows m w1) (hn9:1≤n∧n≤9) (hx5:x≤100) (htos:TosOk rows n m.bks) (hphi:PhI ph n n 0 m) (hz:∀ (j:Nat) (v:Int),1≤j→ph[j]? = some v→v=0) (hhd:Hd x (102+2*1) (3*1) m)
  (hQ:∀ a1 w2 (ph:List Int) (m:MkSt),Fr [(2,.pointer (some ⟨r,0,none⟩)),(3,.pointer (some ⟨mb,0,none⟩)),(4,.int .i64 n),(5,.slice (some ⟨tb,0,none⟩) n n),(7,.slice (some ⟨pb,0,none⟩) n n)] a1→MSt w (exP r pb ph) mb bb tb (.slice sa sl sc) l n rows m w2→TosOk rows n m.bks→PhI ph n n 0 m→Hd x (102+2*n) (3*n) m→Q0 .normal a1 w2):Code.wp Tryz.prog (mkCode [1,1,1,1,1,1,1,1,1,0,1]) Q0 a0 w1:=by
 obtain⟨u,ha0,hu⟩:=frame_ex hfr
 obtain⟨g1,g2,s2,s3,s4,s5,s7,s8,g3⟩:=hfr
 have e2:=hu 2 _ s2
 have e3:=hu 3 _ s3
 have e4:=hu 4 _ s4
 have e5:=hu 5 _ s5
 have e7:=hu 7 _ s7
 have e8:=hu 8 _ s8
 rw[e2,e3,e4,e5,e7,e8]at ha0
 subst ha0
 clear hu g1 g2 g3 e2 s2 e3 s3 e4 s4 e5 s5 e7 s7 e8 s8
 conv=>arg 2;whnf
 have HQ:=Lib.hid hQ
 clear hQ
 go_wp2_with fail
 refine wp_loop_fr (fun t ac wr=>∃ (b:Nat) (ph:List Int) (m:MkSt),t=n-b∧(1≤b∧b≤n)∧Fr [(2,.pointer (some ⟨r,0,none⟩)),(3,.pointer (some ⟨mb,0,none⟩)),(4,.int .i64 n),(5,.slice (some ⟨tb,0,none⟩) n n),(7,.slice (some ⟨pb,0,none⟩) n n),(8,.int .i64 b)] ac∧MSt w (exP r pb ph) mb bb tb (.slice sa sl sc) l n rows m wr∧TosOk rows n m.bks∧PhI ph n n 0 m∧(∀ (j:Nat) (v:Int),b≤j→ph[j]? = some v→v=0)∧Hd x (102+2*b) (3*b) m) (n-1) ⟨1,ph,m,rfl,⟨Nat.le_refl _,hn9.1⟩,(fr_mk rfl rfl (sl_cons rfl (sl_cons rfl (sl_cons rfl (sl_cons rfl (sl_cons rfl (sl_cons rfl (sl_nil _)))))))),hst,htos,hphi,hz,hhd⟩ ?_
 ·clear hst htos hphi hz hhd m ph
  intro t a1 wr K hJ hK
  have HK9:=Lib.hid hK
  clear hK
  obtain⟨b,ph,m,rfl,⟨hb1,hbn⟩,hf,hst,htos,hphi,hz,hhd⟩:=hJ
  obtain⟨u,ha0,hu⟩:=frame_ex hf
  obtain⟨g1,g2,s2,s3,s4,s5,s7,s8,g3⟩:=hf
  have e2:=hu 2 _ s2
  have e3:=hu 3 _ s3
  have e4:=hu 4 _ s4
  have e5:=hu 5 _ s5
  have e7:=hu 7 _ s7
  have e8:=hu 8 _ s8
  rw[e2,e3,e4,e5,e7,e8]at ha0
  subst ha0
  clear hu g1 g2 g3 e2 s2 e3 s3 e4 s4 e5 s5 e7 s7 e8 s8
  have HST2:=Lib.hid hst
  have HTOS:=Lib.hid htos
  have HPHI:=Lib.hid hphi
  have HZ:=Lib.hid hz
  have HHD:=Lib.hid hhd
  clear hst htos hphi hz hhd
  by_cases hlt:b<n
  ·have hbx:=HST2.out.box
   have hb2:=hbx.cell 2
   have hb3:=hbx.cell 3
   have hl3:=hbx.lt
   have hpr:=preds_any m.params m.bks (.slice (some ⟨bb,0,none⟩) n n) wr HST2.out.fn.tos (by rw[HST2.out.len];omega) b
   have HPR:=Lib.hid hpr
   clear hbx hpr
   go_wp2_with fail
   refine HPR.out.mono ?_
   rintro e w9 ⟨pv,ps,rfl,hpown,hs9,hps⟩
   obtain⟨pa,pc,hpv⟩:=own_shape hpown
   obtain⟨pl,hpl⟩:∃ z,ps.length=z:=⟨_,rfl⟩
   rw[hpl]at hpv
   subst hpv
   have HST9:=Lib.hid (HST2.out.keep hs9)
   have h0:ph[b]? = some 0:=by
    obtain⟨v,hv,_⟩:=HPHI.out.at hlt
    rw[hv,HZ.out b v (Nat.le_refl _) hv]
   have H0:=Lib.hid h0
   clear hpown hs9 hps hpl h0 hb2 hb3 hl3 HST2 HPR
   by_cases hgt:1<pl
   ·go_wp2_with fail
    refine (mk_take HST9.out.ok 4 (by decide) (by have:=HHD.out.at_;omega)).mono ?_
    rintro e wa ⟨ma,⟨y,rfl,⟨hy0,hy1⟩,hma⟩,hoa,mva⟩
    obtain⟨yn,rfl⟩:=Int.eq_ofNat_of_zero_le hy0
    have HSA:=Lib.hid (HST9.out.mv hoa mva)
    have HMA:=Lib.hid hma
    have hpc:=HSA.out.phAt.cell b
    rw[List.getElem?_toArray,List.getElem?_map,H0.out]at hpc
    replace hpc:wa.cell? ⟨pb,b,none⟩=some (.int .i64 0):=hpc
    have hpl:=HSA.out.phAt.lt
    have hpf:=HSA.out.phAt.frozen b
    have HHI:=Lib.hid (show Hd x (102+2*b+1) (3*b+0) ma from HHD.out.step (a':=1) (k':=0) (by rw[HMA.out]) (by rw[HMA.out]) (by rw[HMA.out];exact Nat.le_refl _) (by rw[HMA.out];simp) (by rw[HMA.out]))
    have hyn3:yn≤3:=by omega
    clear hoa mva hma hy0 hy1
    go_upto_block 4 with fail
    refine mk_phs w sa sl sc l rows ma r mb bb n tb pb b yn (102+2*b+1) (ph.set b yn) x _ _ _ (fr_mk rfl rfl (sl_cons rfl (sl_cons rfl (sl_cons rfl (sl_cons rfl (sl_cons rfl (sl_cons rfl (sl_cons rfl (sl_nil _))))))))) (HSA.out.setP b yn) hn9 hlt (List.getElem?_set_self (by rw[HPHI.out.len];exact hlt)) (by omega) (by omega) (by rw[HMA.out];exact HTOS.out) (HPHI.out.enter (by rw[HMA.out]) (by rw[HMA.out];exact Int.le_refl _) hlt hb1 H0.out (by omega)) HHI.out ?_
    intro a1 w3 m3 hf hst3 hto3 hph3 hhd3
    obtain⟨u,ha0,hu⟩:=frame_ex hf
    obtain⟨g1,g2,s2,s3,s4,s5,s7,s8,g3⟩:=hf
    have e2:=hu 2 _ s2
    have e3:=hu 3 _ s3
    have e4:=hu 4 _ s4
    have e5:=hu 5 _ s5
    have e7:=hu 7 _ s7
    have e8:=hu 8 _ s8
    rw[e2,e3,e4,e5,e7,e8]at ha0
    subst ha0
    clear hu g1 g2 g3 e2 s2 e3 s3 e4 s4 e5 s5 e7 s7 e8 s8
    have HST3:=Lib.hid hst3
    have HTO3:=Lib.hid hto3
    have HPH3:=Lib.hid hph3
    have HHD3:=Lib.hid hhd3
    clear hst3 hto3 hph3 hhd3
    go_wp2_with fail
    exact HK9.out (n-(b+1)) _ _ (by omega) ⟨b+1,_,m3,rfl,⟨by omega,by omega⟩,(fr_mk rfl rfl (sl_cons rfl (sl_cons rfl (sl_cons rfl (sl_cons rfl (sl_cons rfl (sl_cons rfl (sl_nil _)))))))),HST3.out,HTO3.out,HPH3.out,(fun j v hj hv=>HZ.out j v (by omega) (by rw[List.getElem?_set_ne (by omega)]at hv;exact hv)),HHD3.out.more (by omega) (by omega)⟩
   ·have hgt2:¬ (1:Int)<(pl:Int):=by omega
    go_wp2_with fail
    refine (mk_take HST9.out.ok 6 (by decide) (by have:=HHD.out.at_;omega)).mono ?_
    rintro e wa ⟨ma,⟨y,rfl,⟨hy0,hy1⟩,hma⟩,hoa,mva⟩
    have HSA:=Lib.hid (HST9.out.mv hoa mva)
    have HMA:=Lib.hid hma
    have HHI:=Lib.hid (show Hd x (102+2*b+1) (3*b+0) ma from HHD.out.step (a':=1) (k':=0) (by rw[HMA.out]) (by rw[HMA.out]) (by rw[HMA.out];exact Nat.le_refl _) (by rw[HMA.out];simp) (by rw[HMA.out]))
    clear hoa mva hma
    by_cases hyz:y=0
    ·subst hyz
     have hpc:=HSA.out.phAt.cell b
     rw[List.getElem?_toArray,List.getElem?_map,H0.out]at hpc
     replace hpc:wa.cell? ⟨pb,b,none⟩=some (.int .i64 0):=hpc
     have hpl:=HSA.out.phAt.lt
     have hpf:=HSA.out.phAt.frozen b
     clear hy0 hy1
     go_upto_block 4 with fail
     refine mk_phs w sa sl sc l rows ma r mb bb n tb pb b 1 (102+2*b+1) (ph.set b 1) x _ _ _ (fr_mk rfl rfl (sl_cons rfl (sl_cons rfl (sl_cons rfl (sl_cons rfl (sl_cons rfl (sl_cons rfl (sl_cons rfl (sl_nil _))))))))) (HSA.out.setP b 1) hn9 hlt (List.getElem?_set_self (by rw[HPHI.out.len];exact hlt)) (by omega) (by omega) (by rw[HMA.out];exact HTOS.out) (HPHI.out.enter (by rw[HMA.out]) (by rw[HMA.out];exact Int.le_refl _) hlt hb1 H0.out (by omega)) HHI.out ?_
     intro a1 w3 m3 hf hst3 hto3 hph3 hhd3
     obtain⟨u,ha0,hu⟩:=frame_ex hf
     obtain⟨g1,g2,s2,s3,s4,s5,s7,s8,g3⟩:=hf
     have e2:=hu 2 _ s2
     have e3:=hu 3 _ s3
     have e4:=hu 4 _ s4
     have e5:=hu 5 _ s5
     have e7:=hu 7 _ s7
     have e8:=hu 8 _ s8
     rw[e2,e3,e4,e5,e7,e8]at ha0
     subst ha0
     clear hu g1 g2 g3 e2 s2 e3 s3 e4 s4 e5 s5 e7 s7 e8 s8
     have HST3:=Lib.hid hst3
     have HTO3:=Lib.hid hto3
     have HPH3:=Lib.hid hph3
     have HHD3:=Lib.hid hhd3
     clear hst3 hto3 hph3 hhd3
     go_wp2_with fail
     exact HK9.out (n-(b+1)) _ _ (by omega) ⟨b+1,_,m3,rfl,⟨by omega,by omega⟩,(fr_mk rfl rfl (sl_cons rfl (sl_cons rfl (sl_cons rfl (sl_cons rfl (sl_cons rfl (sl_cons rfl (sl_nil _)))))))),HST3.out,HTO3.out,HPH3.out,(fun j v hj hv=>HZ.out j v (by omega) (by rw[List.getElem?_set_ne (by omega)]at hv;exact hv)),HHD3.out.more (by omega) (by omega)⟩
    ·have hyq:(y==0)=false:=by simpa using hyz
     go_upto_block 4 with fail
     refine mk_phs w sa sl sc l rows ma r mb bb n tb pb b 0 (102+2*b+1) ph x _ _ _ (fr_mk rfl rfl (sl_cons rfl (sl_cons rfl (sl_cons rfl (sl_cons rfl (sl_cons rfl (sl_cons rfl (sl_cons rfl (sl_nil _))))))))) HSA.out hn9 hlt H0.out (by omega) (by omega) (by rw[HMA.out];exact HTOS.out) (HPHI.out.enter0 (by rw[HMA.out]) (by rw[HMA.out];exact Int.le_refl _) hlt hb1 H0.out) HHI.out ?_
     intro a1 w3 m3 hf hst3 hto3 hph3 hhd3
     obtain⟨u,ha0,hu⟩:=frame_ex hf
     obtain⟨g1,g2,s2,s3,s4,s5,s7,s8,g3⟩:=hf
     have e2:=hu 2 _ s2
     have e3:=hu 3 _ s3
     have e4:=hu 4 _ s4
     have e5:=hu 5 _ s5
     have e7:=hu 7 _ s7
     have e8:=hu 8 _ s8
     rw[e2,e3,e4,e5,e7,e8]at ha0
     subst ha0
     clear hu g1 g2 g3 e2 s2 e3 s3 e4 s4 e5 s5 e7 s7 e8 s8
     have HST3:=Lib.hid hst3
     have HTO3:=Lib.hid hto3
     have HPH3:=Lib.hid hph3
     have HHD3:=Lib.hid hhd3
     clear hst3 hto3 hph3 hhd3
     go_wp2_with fail
     exact HK9.out (n-(b+1)) _ _ (by omega) ⟨b+1,_,m3,rfl,⟨by omega,by omega⟩,(fr_mk rfl rfl (sl_cons rfl (sl_cons rfl (sl_cons rfl (sl_cons rfl (sl_cons rfl (sl_cons rfl (sl_nil _)))))))),HST3.out,HTO3.out,HPH3.out,(fun j v hj hv=>HZ.out j v (by omega) hv),HHD3.out.more (by omega) (by omega)⟩
  ·obtain rfl:n=b:=by omega
   go_wp2_with fail
   exact HQ.out _ _ ph m (fr_mk rfl rfl (sl_cons rfl (sl_cons rfl (sl_cons rfl (sl_cons rfl (sl_cons rfl (sl_nil _))))))) HST2.out HTOS.out HPHI.out HHD.out
set_option maxHeartbeats 8000000 in
set_option maxRecDepth 1000000 in
theorem mk_away (w wo:World) (ex:List Bx) (sa:Option Addr) (sl sc:Nat) (l:List Int) (rows:List (Value × List Int)) (m:MkSt) (r mb bb n tb pb db tn b vc:Nat) (va:Option Addr) (rdy:Bool) (a0:Act) (w1:World) (Q0:Exit→Act→World→Prop) (hfr:Fr [(2,.pointer (some ⟨r,0,none⟩)),(3,.pointer (some ⟨mb,0,none⟩)),(4,.int .i64 n),(5,.slice (some ⟨tb,0,none⟩) n n),(7,.slice (some ⟨pb,0,none⟩) n n),(11,.slice (some ⟨db,0,none⟩) n n),(12,.int .i64 tn),(13,.int .i64 b),(14,.bool rdy),(15,.slice va 0 vc),(16,.int .i64 0)] a0)
  (hst:MSt w ex mb bb tb (.slice sa sl sc) l n rows m wo) (hn9:n≤9) (haw:AwOk wo m.bks n (.slice va 0 vc) [] w1)
  (hQ:∀ a1 w2 va vc aw,Fr [(2,.pointer (some ⟨r,0,none⟩)),(3,.pointer (some ⟨mb,0,none⟩)),(4,.int .i64 n),(5,.slice (some ⟨tb,0,none⟩) n n),(7,.slice (some ⟨pb,0,none⟩) n n),(11,.slice (some ⟨db,0,none⟩) n n),(12,.int .i64 tn),(13,.int .i64 b),(14,.bool rdy),(15,.slice va n vc)] a1→AwOk wo m.bks n (.slice va n vc) aw w2→aw.length=n→Q0 .normal a1 w2):Code.wp Tryz.prog (mkCode [1,1,1,1,1,1,1,1,1,1,1,0,1,0,0,1,0,0,1,0,0,1,0,0,1,1,0,1]) Q0 a0 w1:=by
 obtain⟨u,ha0,hu⟩:=frame_ex hfr
 obtain⟨g1,g2,s2,s3,s4,s5,s7,s11,s12,s13,s14,s15,s16,g3⟩:=hfr
 have e2:=hu 2 _ s2
 have e3:=hu 3 _ s3
 have e4:=hu 4 _ s4
 have e5:=hu 5 _ s5
 have e7:=hu 7 _ s7
 have e11:=hu 11 _ s11
 have e12:=hu 12 _ s12
 have e13:=hu 13 _ s13
 have e14:=hu 14 _ s14
 have e15:=hu 15 _ s15
 have e16:=hu 16 _ s16
 rw[e2,e3,e4,e5,e7,e11,e12,e13,e14,e15,e16]at ha0
 subst ha0
 clear hu g1 g2 g3 e2 s2 e3 s3 e4 s4 e5 s5 e7 s7 e11 s11 e12 s12 e13 s13 e14 s14 e15 s15 e16 s16
 conv=>arg 2;whnf
 have HQ:=Lib.hid hQ
 have HST3:=Lib.hid hst
 clear hQ hst
 go_wp2_with fail
 refine wp_loop_fr (fun t ac wr=>∃ (a:Nat) (aw:List (Nat × List Bool)) (va:Option Addr) (vc:Nat),t=n-a∧a≤n∧aw.length=a∧Fr [(2,.pointer (some ⟨r,0,none⟩)),(3,.pointer (some ⟨mb,0,none⟩)),(4,.int .i64 n),(5,.slice (some ⟨tb,0,none⟩) n n),(7,.slice (some ⟨pb,0,none⟩) n n),(11,.slice (some ⟨db,0,none⟩) n n),(12,.int .i64 tn),(13,.int .i64 b),(14,.bool rdy),(15,.slice va a vc),(16,.int .i64 a)] ac∧AwOk wo m.bks n (.slice va a vc) aw wr) n ⟨0,[],va,vc,rfl,Nat.zero_le _,rfl,(fr_mk rfl rfl (sl_cons rfl (sl_cons rfl (sl_cons rfl (sl_cons rfl (sl_cons rfl (sl_cons rfl (sl_cons rfl (sl_cons rfl (sl_cons rfl (sl_cons rfl (sl_cons rfl (sl_nil _))))))))))))),haw⟩ ?_
 ·clear haw va vc
  intro t a1 wr K hJ hK
  have HK9:=Lib.hid hK
  clear hK
  obtain⟨a,aw,va,vc,rfl,han,hal,hf,haw⟩:=hJ
  obtain⟨u,ha0,hu⟩:=frame_ex hf
  obtain⟨g1,g2,s2,s3,s4,s5,s7,s11,s12,s13,s14,s15,s16,g3⟩:=hf
  have e2:=hu 2 _ s2
  have e3:=hu 3 _ s3
  have e4:=hu 4 _ s4
  have e5:=hu 5 _ s5
  have e7:=hu 7 _ s7
  have e11:=hu 11 _ s11
  have e12:=hu 12 _ s12
  have e13:=hu 13 _ s13
  have e14:=hu 14 _ s14
  have e15:=hu 15 _ s15
  have e16:=hu 16 _ s16
  rw[e2,e3,e4,e5,e7,e11,e12,e13,e14,e15,e16]at ha0
  subst ha0
  clear hu g1 g2 g3 e2 s2 e3 s3 e4 s4 e5 s5 e7 s7 e11 s11 e12 s12 e13 s13 e14 s14 e15 s15 e16 s16
  have HAW:=Lib.hid haw
  have HAL:=Lib.hid hal
  clear haw hal
  by_cases hla:a<n
  ·have hst2:=HST3.out.keep HAW.out.old
   have hbx:=hst2.box
   have hb2:=hbx.cell 2
   have hb3:=hbx.cell 3
   have hl3:=hbx.lt
   have hre:=reached_any m.params m.bks (.slice (some ⟨bb,0,none⟩) n n) wr hst2.fn.tos (by rw[hst2.len];omega) a
   have HRE:=Lib.hid hre
   have HLEN:=Lib.hid hst2.len
   have HOLD:=Lib.hid (HAW.out.old.size)
   clear hst2 hbx hre
   go_wp2_with fail
   refine HRE.out.mono ?_
   rintro e w9 ⟨ob,rout,rfl,hob,hobl,hs9,hrl,hr0,hrc⟩
   rw[HLEN.out]at hrl hrc
   have HP:=Lib.hid (show HeapIs (w9.alloc (.cells #[awv n (ob,rout)] 129)) ob (rout.map Value.bool).toArray 4∧wo.heap.size≤ob∧rout.length=n from⟨hob.keep ((Since.refl _).alloc _),by have:=HOLD.out;omega,hrl⟩)
   have HC:=Lib.hid (show ReCl m.bks n aw.length rout from⟨fun h=>hr0 (by rw[HAL.out]at h;exact h),fun c b2 y h1 h2 h3 h4 h5 h6=>hrc c b2 y h1 h2 h3 h4 h5 (by rw[HAL.out]at h6;exact h6)⟩)
   rw[HLEN.out]
   have HS9:=Lib.hid hs9
   have HS10:=Lib.hid (show wo.heap.size≤w9.heap.size from by have:=HOLD.out;have:=hs9.size;omega)
   clear hob hobl hs9 hrl hr0 hrc hb2 hb3 hl3
   go_wp2_with (refine wpList_append_one2 (base:=wo.heap.size) (awc n) 1 (fun _=>rfl) (by decide) rfl _ _ 130 rfl 129 (.slice none 0 0) 24 Tryz.underlying130 (by kernel_rfl) rfl (.slice va a vc) aw (ob,rout) w9.heap.size 1 129 rfl rfl (by have h:=OwnRow.keep HAW.out.own (HS9.out.trans ((Since.refl _).alloc (.cells #[awv n (ob,rout)] 129)));exact h) (heap_last _ _) (by intro u hu;rw[List.mem_singleton.1 hu];rfl) (by rw[HAL.out];unfold maxLen;omega) (by rw[HAL.out];omega) (by have:=HS10.out;simp;omega) ?_;intro v' w' hown' ht' hnew';have HAN:=Lib.hid (HAW.out.add (HS9.out.trans ((Since.refl _).alloc _)) HP.out HC.out hown' ht');obtain⟨va2,vc2,hv2⟩:=own_shape (show w'.ownsRow _ _ _ _ _ _ from hown');rw[show (aw++[(ob,rout)]).length=a+1 from by rw[List.length_append,HAL.out];rfl]at hv2;subst hv2;clear hown' ht' hnew')
   exact HK9.out (n-(a+1)) _ _ (by omega) ⟨a+1,_,va2,vc2,rfl,by omega,by rw[List.length_append,HAL.out];rfl,(fr_mk rfl rfl (sl_cons rfl (sl_cons rfl (sl_cons rfl (sl_cons rfl (sl_cons rfl (sl_cons rfl (sl_cons rfl (sl_cons rfl (sl_cons rfl (sl_cons rfl (sl_cons rfl (sl_nil _))))))))))))),HAN.out⟩
  ·obtain rfl:n=a:=by omega
   go_wp2_with fail
   exact HQ.out _ _ _ _ _ (fr_mk rfl rfl (sl_cons rfl (sl_cons rfl (sl_cons rfl (sl_cons rfl (sl_cons rfl (sl_cons rfl (sl_cons rfl (sl_cons rfl (sl_cons rfl (sl_cons rfl (sl_nil _)))))))))))) HAW.out HAL.out
structure MvC (m m':MkSt) (a n i:Nat):Prop where
 at_:m'.at_≤m.at_+a
 next:m.next≤m'.next∧m'.next≤m.next+n
 total:m'.total≤m.total+i
 live:m'.live.length≤m.live.length+2*i
 same:m'.params=m.params∧(m'.bks.map fun b=>(b.phis,b.phv,b.term))=m.bks.map fun b=>(b.phis,b.phv,b.term)
theorem MvC.refl (m:MkSt):MvC m m 0 0 0:=⟨by omega,by omega,by omega,by omega,rfl,rfl⟩
theorem MvC.trans {m m' m'':MkSt} {a n i a' n' i':Nat} (h:MvC m m' a n i) (k:MvC m' m'' a' n' i'):MvC m m'' (a+a') (n+n') (i+i'):=
 ⟨by have:=h.at_;have:=k.at_;omega,by have:=h.next;have:=k.next;omega,by have:=h.total;have:=k.total;omega,by have:=h.live;have:=k.live;omega,k.same.1.trans h.same.1,k.same.2.trans h.same.2⟩
theorem MvC.more {m m':MkSt} {a n i a' n' i':Nat} (h:MvC m m' a n i) (ha:a≤a') (hn:n≤n') (hi:i≤i'):MvC m m' a' n' i':=
 ⟨by have:=h.at_;omega,by have:=h.next;omega,by have:=h.total;omega,by have:=h.live;omega,h.same⟩
theorem Mv.c {mb:Nat} {bv:Value} {w w':World} {m m':MkSt} {a n i:Nat} (h:Mv mb bv w m w' m' a n i):MvC m m' a n i:=⟨h.at_,h.next,h.total,h.live,h.same⟩
theorem MvC.sm {m m':MkSt} {i : Nat} (h:MvC m m' (30*i) (6*i) (7*i)) (hs:m.at_≤5000∧m.next≤5000∧m.total≤5000∧m.live.length≤15000) (hi:i≤6):Sm 10 m':=
 ⟨by have:=h.at_;omega,by have:=h.next;omega,by have:=h.total;omega,by have:=h.live;omega⟩
theorem unitq {m : MkSt} {e : Ending} (h:UnitQ m e):e=.returned (.tuple #[]):=h
set_option maxHeartbeats 8000000 in
set_option maxRecDepth 1000000 in
theorem mk_insns (w:World) (ex:List Bx) (sa:Option Addr) (sl sc:Nat) (l:List Int) (rows:List (Value × List Int)) (m:MkSt) (r mb bb n tb pb db tn b q:Nat) (a0:Act) (w1:World) (Q0:Exit→Act→World→Prop) (hfr:Fr [(2,.pointer (some ⟨r,0,none⟩)),(3,.pointer (some ⟨mb,0,none⟩)),(4,.int .i64 n),(5,.slice (some ⟨tb,0,none⟩) n n),(7,.slice (some ⟨pb,0,none⟩) n n),(11,.slice (some ⟨db,0,none⟩) n n),(12,.int .i64 tn),(13,.int .i64 b),(23,.int .i64 q),(24,.int .i64 0)] a0)
  (hst:MSt w ex mb bb tb (.slice sa sl sc) l n rows m w1) (hb:b<n) (hn9:n≤9) (hq6:q≤6) (hsm:m.at_≤5000∧m.next≤5000∧m.total≤5000∧m.live.length≤15000)
  (hQ:∀ a1 w2 m2,Fr [(2,.pointer (some ⟨r,0,none⟩)),(3,.pointer (some ⟨mb,0,none⟩)),(4,.int .i64 n),(5,.slice (some ⟨tb,0,none⟩) n n),(7,.slice (some ⟨pb,0,none⟩) n n),(11,.slice (some ⟨db,0,none⟩) n n),(12,.int .i64 tn),(13,.int .i64 b)] a1→MSt w ex mb bb tb (.slice sa sl sc) l n rows m2 w2→MvC m m2 180 36 42→Q0 .normal a1 w2):Code.wp Tryz.prog (mkCode [1,1,1,1,1,1,1,1,1,1,1,0,1,0,0,1,0,0,1,0,0,1,0,0,1,1,1,1,1,1,1,1,1,1,0,1]) Q0 a0 w1:=by
 obtain⟨u,ha0,hu⟩:=frame_ex hfr
 obtain⟨g1,g2,s2,s3,s4,s5,s7,s11,s12,s13,s23,s24,g3⟩:=hfr
 have e2:=hu 2 _ s2
 have e3:=hu 3 _ s3
 have e4:=hu 4 _ s4
 have e5:=hu 5 _ s5
 have e7:=hu 7 _ s7
 have e11:=hu 11 _ s11
 have e12:=hu 12 _ s12
 have e13:=hu 13 _ s13
 have e23:=hu 23 _ s23
 have e24:=hu 24 _ s24
 rw[e2,e3,e4,e5,e7,e11,e12,e13,e23,e24]at ha0
 subst ha0
 clear hu g1 g2 g3 e2 s2 e3 s3 e4 s4 e5 s5 e7 s7 e11 s11 e12 s12 e13 s13 e23 s23 e24 s24
 conv=>arg 2;whnf
 have HQ:=Lib.hid hQ
 have HS:=Lib.hid hsm
 clear hQ hsm
 go_wp2_with fail
 refine wp_loop_fr (fun t ac wr=>∃ (i:Nat) (m2:MkSt),t=q-i∧i≤q∧Fr [(2,.pointer (some ⟨r,0,none⟩)),(3,.pointer (some ⟨mb,0,none⟩)),(4,.int .i64 n),(5,.slice (some ⟨tb,0,none⟩) n n),(7,.slice (some ⟨pb,0,none⟩) n n),(11,.slice (some ⟨db,0,none⟩) n n),(12,.int .i64 tn),(13,.int .i64 b),(23,.int .i64 q),(24,.int .i64 i)] ac∧MSt w ex mb bb tb (.slice sa sl sc) l n rows m2 wr∧MvC m m2 (30*i) (6*i) (7*i)) q ⟨0,m,rfl,Nat.zero_le _,(fr_mk rfl rfl (sl_cons rfl (sl_cons rfl (sl_cons rfl (sl_cons rfl (sl_cons rfl (sl_cons rfl (sl_cons rfl (sl_cons rfl (sl_cons rfl (sl_cons rfl (sl_nil _)))))))))))),hst,MvC.refl m⟩ ?_
 ·clear hst
  intro t a1 wr K hJ hK
  have HK9:=Lib.hid hK
  clear hK
  obtain⟨i,m2,rfl,hiq,hf,hst,hmc⟩:=hJ
  obtain⟨u,ha0,hu⟩:=frame_ex hf
  obtain⟨g1,g2,s2,s3,s4,s5,s7,s11,s12,s13,s23,s24,g3⟩:=hf
  have e2:=hu 2 _ s2
  have e3:=hu 3 _ s3
  have e4:=hu 4 _ s4
  have e5:=hu 5 _ s5
  have e7:=hu 7 _ s7
  have e11:=hu 11 _ s11
  have e12:=hu 12 _ s12
  have e13:=hu 13 _ s13
  have e23:=hu 23 _ s23
  have e24:=hu 24 _ s24
  rw[e2,e3,e4,e5,e7,e11,e12,e13,e23,e24]at ha0
  subst ha0
  clear hu g1 g2 g3 e2 s2 e3 s3 e4 s4 e5 s5 e7 s7 e11 s11 e12 s12 e13 s13 e23 s23 e24 s24
  have HST:=Lib.hid hst
  have HMC:=Lib.hid hmc
  clear hst hmc
  by_cases hlt:i<q
  ·go_wp2_with fail
   refine (mk_instruction HST.out.ok (HMC.out.sm HS.out (by omega)) b (by rw[HST.out.len];exact hb)).mono ?_
   rintro e w2 ⟨m3,hU,hok,hmv⟩
   have HST3:=Lib.hid (HST.out.mv hok hmv)
   have HMC3:=Lib.hid (HMC.out.trans hmv.c)
   obtain rfl:=unitq hU
   clear hok hmv hU
   go_wp2_with fail
   exact HK9.out (q-(i+1)) _ _ (by omega) ⟨i+1,m3,rfl,by omega,(fr_mk rfl rfl (sl_cons rfl (sl_cons rfl (sl_cons rfl (sl_cons rfl (sl_cons rfl (sl_cons rfl (sl_cons rfl (sl_cons rfl (sl_cons rfl (sl_cons rfl (sl_nil _)))))))))))),HST3.out,HMC3.out⟩
  ·obtain rfl:q=i:=by omega
   go_wp2_with fail
   exact HQ.out _ _ _ (fr_mk rfl rfl (sl_cons rfl (sl_cons rfl (sl_cons rfl (sl_cons rfl (sl_cons rfl (sl_cons rfl (sl_cons rfl (sl_cons rfl (sl_nil _)))))))))) HST.out (HMC.out.more (by omega) (by omega) (by omega))
section
variable {w0 w w':World} {ex aex:List Bx} {mb bb tb r pb db:Nat} {sv v:Value} {l : List Int} {n : Nat} {rows:List (Value × List Int)} {m m' m1 m2 m3:MkSt} {ph:List Int} {dn:List Bool} {aw:List (Nat × List Bool)} {x : Int}
theorem MSt.setDx (h:MSt w0 (exD r pb db ph dn++aex) mb bb tb sv l n rows m w) (hne:∀ x∈aex,x.q≠db) (j:Nat) (v:Bool):MSt w0 (exD r pb db ph (dn.set j v)++aex) mb bb tb sv l n rows m (w.setCell ⟨db,j,none⟩ (.bool v)):=by
 have t:Turn (fun q=>q=db) w (w.setCell ⟨db,j,none⟩ (.bool v)):=(Turn.refl (fun q=>q=db) w).setCell (p:=⟨db,j,none⟩) rfl _
 have hb:∀ x∈exD r pb db ph dn++aex,HeapIs w x.q x.cs x.ty:=fun x hx=>(h.boxes x hx).1
 have hr:=hb (bxR r) (by simp[exD])
 have hp:=hb (bxP pb ph) (by simp[exD])
 have hd:=hb (bxD db dn) (by simp[exD])
 refine h.beside t (fun q _ e=>⟨bxD db dn,by simp[exD],e.symm⟩) fun x hx=>?_
 rcases List.mem_append.1 hx with hx|hx
 ·rcases List.mem_cons.1 hx with rfl|hx
  ·exact⟨hr.turn t (heap_ne hr hd (show (24:TypeId)≠4 by decide)),.inl ⟨bxR r,by simp[exD],rfl⟩⟩
  ·rcases List.mem_cons.1 hx with rfl|hx
   ·exact⟨hp.turn t (heap_ne hp hd (show (3:TypeId)≠4 by decide)),.inl ⟨bxP pb ph,by simp[exD],rfl⟩⟩
   ·rw[List.mem_singleton.1 hx]
    refine⟨?_,.inl ⟨bxD db dn,by simp[exD],rfl⟩⟩
    have h1:=HeapIs.set hd j (.bool v)
    show HeapIs _ db ((dn.set j v).map Value.bool).toArray 4
    rw[List.map_set]
    simpa [bxD]using h1
 ·exact⟨(hb x (List.mem_append_right _ hx)).turn t (hne x hx),.inl ⟨x,List.mem_append_right _ hx,rfl⟩⟩
theorem MSt.away (h:MSt w0 (exD r pb db ph dn) mb bb tb sv l n rows m w) (ha:AwOk w m.bks n v aw w') (hl:0<aw.length):∃ vb cap cur,v=.slice (some ⟨vb,0,none⟩) aw.length cap∧MSt w0 (exD r pb db ph dn++awEx vb cur aw) mb bb tb sv l n rows m w'∧(∀ x∈awEx vb cur aw,x.q≠db)∧∀ (a:Nat) (p:Nat × List Bool),aw[a]? = some p→cur[a]? = some (awv n p):=by
 obtain⟨vb,cap,cur,hv,_,_,hc,hx⟩:=ha.open hl
 refine⟨vb,cap,cur,hv,h.beside (T:=fun _=>False) (Turn.since ha.old) (fun q _ e=>e.elim) fun x hx2=>?_,fun x hx2 e=>?_,hc⟩
 ·rcases List.mem_append.1 hx2 with hx2|hx2
  ·exact⟨(h.boxes x hx2).1.keep ha.old,.inl ⟨x,hx2,rfl⟩⟩
  ·exact⟨(hx x hx2).1,.inr (hx x hx2).2⟩
 ·have h1:=(h.boxes (bxD db dn) (by simp[exD])).1.lt
  have h2:=(hx x hx2).2
  rw[e]at h2
  exact absurd h1 (by simp only[bxD];omega)
theorem awIn_of {bks:List FBlk} {vb b:Nat} {cur:Array Value} (pre:List Bx) (ha:AwOk w bks n v aw w') (hl:aw.length=n) (hc:∀ (a:Nat) (p:Nat × List Bool),aw[a]? = some p→cur[a]? = some (awv n p)) (hb:b<n):AwIn (pre++awEx vb cur aw) vb n b cur:=by
 refine⟨List.mem_append_right _ (List.mem_cons_self),fun a han=>?_⟩
 obtain⟨p,hp⟩:∃ p,aw[a]? = some p:=⟨_,List.getElem?_eq_getElem (by rw[hl];exact han)⟩
 have hm:=List.mem_of_getElem? hp
 obtain⟨rb,hrb⟩:∃ z,p.2[b]? = some z:=⟨_,List.getElem?_eq_getElem (by rw[(ha.each p hm).2.2];exact hb)⟩
 exact⟨p.1,p.2,rb,hc a p hp,List.mem_append_right _ (List.mem_cons_of_mem _ (List.mem_map.2 ⟨p,hm,rfl⟩)),hrb⟩
theorem ready_of {vb b:Nat} {cur:Array Value} {pre:List Bx} (h:MSt w0 (pre++awEx vb cur aw) mb bb tb sv l n rows m w') (ha:AwOk w m.bks n v aw w') (hl:aw.length=n) (hc:∀ (a:Nat) (p:Nat × List Bool),aw[a]? = some p→cur[a]? = some (awv n p)) (hb:b<n) (ht:TosOk rows n m.bks) (hch:Chain rows n) :
  (∀ a,a<n→∃ (ob:Nat) (rb:Bool),w'.cell? ⟨vb,a,none⟩=some (.slice (some ⟨ob,0,none⟩) n n)∧vb<w'.heap.size∧w'.cell? ⟨ob,b,none⟩=some (.bool rb)∧ob<w'.heap.size) ∧
  ∀ (a ob:Nat) (rb:Bool),a<n→w'.cell? ⟨vb,a,none⟩=some (.slice (some ⟨ob,0,none⟩) n n)→w'.cell? ⟨ob,b,none⟩=some (.bool rb)→b<a→rb=true:=by
 obtain⟨hv,hin⟩:=awIn_of (vb:=vb) (cur:=cur) pre ha hl hc hb
 have hvb:=(h.boxes _ hv).1
 have key:∀ a,a<n→∃ p,aw[a]? = some p∧w'.cell? ⟨vb,a,none⟩=some (awv n p)∧HeapIs w' p.1 (p.2.map Value.bool).toArray 4:=fun a han=>by
  obtain⟨p,hp⟩:∃ p,aw[a]? = some p:=⟨_,List.getElem?_eq_getElem (by rw[hl];exact han)⟩
  exact⟨p,hp,(hvb.cell a).trans (hc a p hp),(ha.each p (List.mem_of_getElem? hp)).1⟩
 refine⟨fun a han=>?_,fun a ob rb han h1 h2 hba=>?_⟩
 ·obtain⟨p,hp,h1,h2⟩:=key a han
  obtain⟨rb,hrb⟩:∃ z,p.2[b]? = some z:=⟨_,List.getElem?_eq_getElem (by rw[(ha.each p (List.mem_of_getElem? hp)).2.2];exact hb)⟩
  refine⟨p.1,rb,h1,hvb.lt,?_,h2.lt⟩
  rw[h2.cell b,List.getElem?_toArray,List.getElem?_map,hrb];rfl
 ·obtain⟨p,hp,h3,h4⟩:=key a han
  rw[h3]at h1
  have h1:p.1=ob:=by
   have h5:=Option.some.inj h1
   unfold awv at h5
   injection h5 with h6
   injection h6 with h7
   injection h7
  have h5:=reach_lower (ha.cl a p hp) ht hch h.len (b+1) b (by omega) hba hb
  rw[←h1,h4.cell b,List.getElem?_toArray,List.getElem?_map,h5]at h2
  injection h2 with h2
  injection h2 with h2
  exact h2.symm
theorem MvC.at {a k i:Nat} (h:MvC m m' a k i) {j : Nat} {k':FBlk} (hk:m'.bks[j]? = some k'):∃ k,m.bks[j]? = some k∧k'.phis=k.phis∧k'.term=k.term:=by
 have h1:=congrArg (fun x=>x[j]?) h.same.2
 simp only[List.getElem?_map,hk,Option.map_some]at h1
 obtain⟨k2,h2,h3⟩:=Option.map_eq_some_iff.1 h1.symm
 exact⟨k2,h2,(congrArg (fun x=>x.1) h3).symm,(congrArg (fun x=>x.2.2) h3).symm⟩
theorem MvT.at {bv:Value} {a k i b:Nat} {t : FTerm} (h:MvT mb bv w m w' m' a k i b t) {j : Nat} {k':FBlk} (hk:m'.bks[j]? = some k'):∃ k,m.bks[j]? = some k∧k'.phis=k.phis∧((j≠b∧k'.term=k.term)∨(j=b∧k'.term=t)):=by
 obtain⟨k0,hk0,hs⟩:=h.same
 have h1:=congrArg (fun x=>x[j]?) hs
 simp only[List.getElem?_map,hk,Option.map_some]at h1
 rcases getElem?_set_cases h1.symm with ⟨rfl,h2⟩|⟨hne,h2⟩
 ·exact⟨k0,hk0,congrArg (fun x=>x.1) h2,.inr ⟨rfl,congrArg (fun x=>x.2.2) h2⟩⟩
 ·rw[List.getElem?_map]at h2
  obtain⟨k2,h3,h4⟩:=Option.map_eq_some_iff.1 h2
  exact⟨k2,h3,(congrArg (fun x=>x.1) h4).symm,.inl ⟨hne,(congrArg (fun x=>x.2.2) h4).symm⟩⟩
theorem MvT.len {bv:Value} {a k i b:Nat} {t : FTerm} (h:MvT mb bv w m w' m' a k i b t):m'.bks.length=m.bks.length:=by
 obtain⟨k0,_,hs⟩:=h.same
 have:=congrArg List.length hs
 simpa using this
theorem PhI.same {n b i:Nat} (h:PhI ph n b i m) (hs:∀ (j:Nat) (k':FBlk),m'.bks[j]? = some k'→∃ k,m.bks[j]? = some k∧k'.phis=k.phis) (hn:m.next≤m'.next):PhI ph n b i m':=by
 refine⟨h.len,h.few,h.zero,fun k hk p hp=>?_,fun j k v hj hk hv=>?_,fun k hk=>?_⟩
 ·obtain⟨j,hj⟩:=List.getElem?_of_mem hk
  obtain⟨k0,h0,h1⟩:=hs j k hj
  rw[h1]at hp
  have:=h.phi k0 (List.mem_of_getElem? h0) p hp
  exact⟨⟨this.1.1,by have:=this.1.2;omega⟩,this.2⟩
 ·obtain⟨k0,h0,h1⟩:=hs j k hk
  rw[h1];exact h.cnt j k0 v hj h0 hv
 ·obtain⟨k0,h0,h1⟩:=hs b k hk
  rw[h1];exact h.cur k0 h0
theorem Lp.more {bv:Value} {b : Nat} {t : FTerm} (h:Lp x ph n b m) (h1:m1.bks=m.bks∧m1.next=m.next∧m1.params=m.params∧m1.at_=m.at_+1) (hlv:m1.live.length≤9004) (h2:MvC m1 m2 180 36 42) (h3:MvT mb bv w m2 w' m3 13 3 3 b t) (ht:TermGood m3.next n t):Lp x ph n (b+1) m3:=by
 have hp:∀ (j:Nat) (k':FBlk),m3.bks[j]? = some k'→∃ k,m.bks[j]? = some k∧k'.phis=k.phis∧((j≠b∧k'.term=k.term)∨(j=b∧k'.term=t)):=fun j k' hk=>by
  obtain⟨k2,hk2,e2,e3⟩:=h3.at hk
  obtain⟨k1,hk1,e4,e5⟩:=h2.at hk2
  rw[h1.1]at hk1
  refine⟨k1,hk1,e2.trans e4,?_⟩
  rcases e3 with ⟨a1,a2⟩|a1
  ·exact .inl ⟨a1,a2.trans e5⟩
  ·exact .inr a1
 have hnx:m.next≤m3.next:=by have:=h2.next.1;have:=h3.next.1;have:=h1.2.1;omega
 refine⟨h.phs.same (fun j k' hk=>by obtain⟨k,a1,a2,_⟩:=hp j k' hk;exact⟨k,a1,a2⟩) hnx,?_,?_,?_,?_,by have:=h2.live;have:=h3.live;omega,fun j k' hj hk=>?_⟩
 ·have:=h.at_;have:=h2.at_;have:=h3.at_;have:=h1.2.2.2;omega
 ·have:=h.next;have:=h2.next.2;have:=h3.next.2;have:=h1.2.1;omega
 ·exact h3.params.trans (h2.same.1.trans (h1.2.2.1.trans h.params))
 ·have e:m1.total=m.total:=by unfold MkSt.total;rw[h1.1]
  have:=h.total;have:=h2.total;have:=h3.total;omega
 ·obtain⟨k,a1,_,a3⟩:=hp j k' hk
  rcases a3 with ⟨a3,a4⟩|⟨a3,a4⟩
  ·rw[a4];exact (h.terms j k (by omega) a1).mono hnx
  ·rw[a4];exact ht
theorem TosOk.more {bv:Value} {b : Nat} {t : FTerm} {rw_:Value × List Int} (h:TosOk rows n m1.bks) (h2:MvC m1 m2 180 36 42) (h3:MvT mb bv w m2 w' m3 13 3 3 b t) (hr:rows[b]? = some rw_) (ht:t.to=rw_.2):TosOk rows n m3.bks:=fun j k' r hj hk hr2=>by
 obtain⟨k2,hk2,_,e3⟩:=h3.at hk
 obtain⟨k1,hk1,_,e5⟩:=h2.at hk2
 rcases e3 with ⟨_,a2⟩|⟨rfl,a2⟩
 ·rw[a2,e5];exact h j k1 r hj hk1 hr2
 ·rw[a2,ht,Option.some.inj (hr.symm.trans hr2)]
theorem Lp.blk {d : Nat} (h:Lp x ph n d m) (hl:m.bks.length=n) (hd:d≤9):∀ (a:Nat) (k:FBlk),m.bks[a]? = some k→((∀ p∈k.phis,0≤p.dst∧p.dst<m.next)∧k.phis.length≤3)∧k.ins.length≤450:=fun a k hk=>by
 have hkm:=List.mem_of_getElem? hk
 have han:a<n:=by have:=(List.getElem?_eq_some_iff.1 hk).1;omega
 obtain⟨v,hv,h0,h3⟩:=h.phs.at han
 have h1:=h.phs.cnt a k v (by omega) hk hv
 have h2:=ins_le_total hkm
 have h4:=h.total
 exact⟨⟨fun p hp=>(h.phs.phi k hkm p hp).1,by omega⟩,by omega⟩
theorem own_none_int (w:World):(w.alloc (.cells #[] 3)).ownsRow 0 3 1 (.slice (some ⟨w.heap.size,0,none⟩) 0 0) ([]:List Int).length (([]:List Int).map (Value.int .i64)):=
 own_nilrow (f:=fun (y:Int)=>[Value.int .i64 y]) w 0 (Nat.zero_le _)
end
end Go.Proofs.YtmhojfpidedjeaaGreatDoor
