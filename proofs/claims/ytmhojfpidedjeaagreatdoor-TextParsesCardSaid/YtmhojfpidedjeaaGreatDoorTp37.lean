import Derived.Test.YtmhojfpidedjeaaGreatDoorTp36
namespace Go.Proofs.YtmhojfpidedjeaaGreatDoor
open Go.RowKit Go.Lib
set_option linter.unusedVariables false
set_option maxHeartbeats 8000000
set_option maxRecDepth 1000000
theorem ZbF (w:World) (sa:Option Addr) (sl sc:Nat) (l:List Int) (rows:List (Value × List Int)) (m:Zj) (r mb bb n tb pb b v A:Nat) (ph:List Int) (x:Int) (a0:Act) (w1:World) (Q0:Exit→Act→World→Prop) (h3:Fr [(2,.pointer (some ⟨r,0,none⟩)),(3,.pointer (some ⟨mb,0,none⟩)),(4,.int .i64 n),(5,.slice (some ⟨tb,0,none⟩) n n),(7,.slice (some ⟨pb,0,none⟩) n n),(8,.int .i64 b),(10,.int .i64 0)] a0)
  (hm:MSt w (exP r pb ph) mb bb tb (.slice sa sl sc) l n rows m w1) (Hx:1≤n∧n≤9) (hO:b<n) (hU:ph[b]? = some (v:Int)) (Hv:v≤3) (Hu:x≤100) (hi:Yh rows n m.bks) (hn:PhI ph n b 0 m) (hy:Hd x A (3*b+0) m)
  (hQ:∀ a1 w2 (m:Zj),Fr [(2,.pointer (some ⟨r,0,none⟩)),(3,.pointer (some ⟨mb,0,none⟩)),(4,.int .i64 n),(5,.slice (some ⟨tb,0,none⟩) n n),(7,.slice (some ⟨pb,0,none⟩) n n),(8,.int .i64 b)] a1→MSt w (exP r pb ph) mb bb tb (.slice sa sl sc) l n rows m w2→Yh rows n m.bks→PhI ph n n 0 m→Hd x A (3*b+3) m→Q0 .normal a1 w2):Code.wp Tryz.prog (mkCode [1,1,1,1,1,1,1,1,1,0,1,0,0,1,0,0,1,1,1]) Q0 a0 w1:=by
 obtain⟨u,hz,hu⟩:=Zr h3;obtain⟨g1,g2,s2,s3,s4,s5,s7,s8,s10,g3⟩:=h3;have e2:=hu 2 _ s2;have e3:=hu 3 _ s3;have e4:=hu 4 _ s4;have e5:=hu 5 _ s5;have e7:=hu 7 _ s7;have e8:=hu 8 _ s8;have e10:=hu 10 _ s10;rw[e2,e3,e4,e5,e7,e8,e10]at hz;subst hz;clear hu g1 g2 g3 e2 s2 e3 s3 e4 s4 e5 s5 e7 s7 e8 s8 e10 s10
 conv=>arg 2;whnf
 have HQ:=hid hQ;have h4:=hid hU;clear hQ hU;go_wp2_with fail
 refine YC (fun t ac wr=>∃ (i2:Nat) (m:Zj),t=v-i2∧i2≤v∧Fr [(2,.pointer (some ⟨r,0,none⟩)),(3,.pointer (some ⟨mb,0,none⟩)),(4,.int .i64 n),(5,.slice (some ⟨tb,0,none⟩) n n),(7,.slice (some ⟨pb,0,none⟩) n n),(8,.int .i64 b),(10,.int .i64 i2)] ac∧MSt w (exP r pb ph) mb bb tb (.slice sa sl sc) l n rows m wr∧Yh rows n m.bks∧PhI ph n b i2 m∧Hd x A (3*b+i2) m) v ⟨0,m,rfl,Nat.zero_le _,(Zv rfl rfl (Za rfl (Za rfl (Za rfl (Za rfl (Za rfl (Za rfl (Za rfl (Zo _))))))))),hm,hi,hn,hy⟩ ?_
 ·clear hm hi hn hy m;intro t a1 wr K hJ hK;have Hq:=hid hK;clear hK;obtain⟨i2,m,rfl,Hz,hf,hm,hi,hn,hy⟩:=hJ;obtain⟨u,hz,hu⟩:=Zr hf;obtain⟨g1,g2,s2,s3,s4,s5,s7,s8,s10,g3⟩:=hf;have e2:=hu 2 _ s2;have e3:=hu 3 _ s3;have e4:=hu 4 _ s4;have e5:=hu 5 _ s5;have e7:=hu 7 _ s7;have e8:=hu 8 _ s8;have e10:=hu 10 _ s10;rw[e2,e3,e4,e5,e7,e8,e10]at hz;subst hz;clear hu g1 g2 g3 e2 s2 e3 s3 e4 s4 e5 s5 e7 s7 e8 s8 e10 s10;have hb:=hid hm;have hE:=hid hi;have hp:=hid hn;have hd:=hid hy;have hF:=hm.phAt.cell b;have Hk:=hm.phAt.lt;rw[List.getElem?_toArray,List.getElem?_map,h4.out]at hF
  replace hF:wr.cell? ⟨pb,b,none⟩=some (.int .i64 (v:Int)):=hF
  clear hm hi hn hy;by_cases Hs:i2<v
  ·obtain⟨k,hk⟩:=hb.out.at hO;have HK:=hid hk;have hx:=hb.out.ok.each k (List.mem_of_getElem? hk);obtain⟨fa,fc,hH⟩:=Ze (show wr.ownsRow _ _ _ _ _ _ from hx.phis);rw[hp.out.cur k hk]at hH;have hs:=hid hH;have hR:=hb.out.box;have hL:Zb6 (CE (exP r pb ph)) mb (.slice (some ⟨bb,0,none⟩) n n) (.slice sa sl sc) l wr m bb 0 wr.drew:=⟨fun _=>⟨hb.out.ok.keep ((Since.refl _).drew),(Since.refl _).drew⟩,fun e=>(by cases e),fun e=>absurd rfl e,hR.cell 3,hR.lt,hb.out.blkAt,fun q hq=>hb.out.ok.ltOwnC hq⟩
   have He:=hid hL;have hP:=hb.out.cell hk (show 0<6 by decide);rw[show (fbcells k)[0]? = some k.phv from rfl,hH,Nat.add_zero]at hP
   have h7:=hid hP;have h0:0≤m.next∧m.next≤100000:=⟨hb.out.ok.next0,by have:=hd.out.next;omega⟩;have h5:=hid h0;have Ht:i2≤3:=by omega
   clear hk hx hH hR hL hP h0;go_wp2_with fail
   clear hF Hk;refine K8 20 19 [16,19] [0,0,0,0,0,0,0,0,0,0,0,0,0,0,0,0,0,1,1,1] [2,2,2,2,2,2,1,1,1,1,1,1,1,1,1,0,0,1,1,1] [0,0,0,0,0,0,0,0,0,0,0,0,0,0,0,0,1,0,0,1] (fun q=>q=mb∨(Value.slice fa i2 fc).ownBlock=some q) (fun q=>q=mb) (fun q e=>.inl e) (Zb6 (CE (exP r pb ph)) mb (.slice (some ⟨bb,0,none⟩) n n) (.slice sa sl sc) l wr m bb) rfl (by decide +kernel) (by decide +kernel) (by decide +kernel) (by decide) (by decide +kernel)
    [Is (.pointer (some ⟨mb,0,none⟩)),Is (.pointer (some ⟨mb,0,none⟩)),Is (.pointer (some ⟨mb,2,none⟩)),Is (.pointer (some ⟨mb,3,none⟩)),Is (.slice (some ⟨bb,0,none⟩) n n),Is (.int .i64 b),Is (.pointer (some ⟨mb,0,none⟩)),Is (.pointer (some ⟨mb,0,none⟩)),Is (.pointer (some ⟨mb,2,none⟩)),Is (.pointer (some ⟨mb,3,none⟩)),Is (.slice (some ⟨bb,0,none⟩) n n),Is (.int .i64 b),Is (.pointer (some ⟨bb,b*6,none⟩)),Is (.pointer (some ⟨bb,b*6,none⟩)),Is (.slice fa i2 fc),Is (.pointer (some ⟨mb,0,none⟩)),Is (.int .i64 m.next),Is (.agg #[.int .i64 m.next,.slice none 0 0]),Wc (fun q=>q=mb∨(Value.slice fa i2 fc).ownBlock=some q) m.next,QY (CE (exP r pb ph)) mb (.slice (some ⟨bb,0,none⟩) n n) (.slice sa sl sc) l wr m (.slice fa i2 fc) (k.phis++[⟨m.next,[],.slice none 0 0⟩])]
    (by repeat (first | exact trivial | refine⟨fun h=>absurd rfl h,?_⟩ | refine⟨fun _=>Is.stableT _ _,?_⟩ | refine⟨fun _=>Any.stableT _,?_⟩ | refine⟨fun _=>Wc.stableT _ _,?_⟩)) (by repeat (first | exact trivial | refine⟨Is.stableT _ _,?_⟩ | refine⟨Any.stableT _,?_⟩ | refine⟨Wc.stableT2 _,?_⟩ | refine⟨QY.stableT _ _ _ _ _ _ _ _ _,?_⟩)) He.out ⟨?_,?_,?_,?_,?_,?_,?_,?_,?_,?_,?_,?_,?_,?_,?_,?_,?_,?_,?_,?_,trivial⟩ ?_
   rotate_right
   ·intro vs w5 ht ha hk;simp only[List.take,List.drop,putAll,Act.put,Zc,Zd,Is,List.setIfInBounds_toArray,List.set_cons_zero,List.set_cons_succ,Nat.reduceAdd]at hk ⊢;try simp only[hk]
    obtain⟨wa,hC,hN,hI,hM,hB,_⟩:QY (CE (exP r pb ph)) mb (.slice (some ⟨bb,0,none⟩) n n) (.slice sa sl sc) l wr m (.slice fa i2 fc) (k.phis++[⟨m.next,[],.slice none 0 0⟩]) (vs 19) w5:=by exact hk.2.2.2.2.2.2.2.2.2.2.2.2.2.2.2.2.2.2.2.1
    have hV:=Zbk hI hC.made (ha.three (by decide));clear hI;generalize vs 19=nv at *;have HD:w5.cell? ⟨bb,b*6,none⟩=some (.slice fa i2 fc):=(ha.blk.cell (b*6)).trans ((hb.out.blkAt.cell (b*6)).symm.trans h7.out);have HC:=ha.blk.frozen (b*6);have HB:=ha.blk.lt;have Hg:=hid hC;have Hi:=hid hN;have Hm:=hid hV;have Hh:=hid hM;have Hf:=hid hB;obtain⟨na,nc,h1⟩:=Ze (show w5.ownsRow _ _ _ _ _ _ from hB);rw[show (k.phis++[(⟨m.next,[],.slice none 0 0⟩:ZC)]).length=i2+1 from by rw[List.length_append,hp.out.cur k HK.out];rfl]at h1
    subst h1;clear hk ha ht hC hN hV hM hB;go_wp2
    have hD:=Hg.out.addPhi (bb:=bb) (k:=k) (b:=b) HK.out rfl Hf.out (by rw[hs.out];exact Hm.out) (by rw[hs.out];exact Hh.out) ⟨.inl ⟨none,rfl,rfl⟩,Stays.nil _ _⟩;have Hj:=hid (hb.out.step hD.1 (Hi.out.s.trans hD.2) (by simp));clear hD;exact Hq.out (v-(i2+1)) _ _ (by omega) ⟨i2+1,_,rfl,by omega,(Zv rfl rfl (Za rfl (Za rfl (Za rfl (Za rfl (Za rfl (Za rfl (Za rfl (Zo _))))))))),Hj.out,hE.out.set (fun r hr=>hE.out b k r hO HK.out hr),hp.out.add HK.out rfl ⟨⟨h5.out.1,by show m.next<m.next+1;omega⟩,rfl⟩ rfl rfl,⟨hd.out.at_,by have:=hd.out.next;show m.next+1≤_;omega,hd.out.params,hd.out.live,fun c hc=>by
     rcases Yc hc with rfl|⟨j,_,hj⟩
     ·exact hd.out.ins k (List.mem_of_getElem? HK.out)
     ·exact hd.out.ins c (List.mem_of_getElem? hj)⟩⟩
   all_goals
    intro p vs w5 Hy HA ht ha hk;simp only[List.take,putAll,Act.put,Zh,Zd,Is,List.setIfInBounds_toArray,List.set_cons_zero,List.set_cons_succ,Nat.reduceAdd]at hk ⊢;try simp only[hk]
   iterate 2
    ·go_wp2
     exact⟨_,rfl,rfl,Turn.refl _ _,ha⟩
    ·have hl:=ha.lmb;go_wp2
     exact⟨_,rfl,rfl,Turn.refl _ _,ha⟩
    iterate 2
     ·go_wp2
      exact⟨_,rfl,rfl,Turn.refl _ _,ha⟩
    ·have hc:=ha.c3;have hl:=ha.lmb;go_wp2
     exact⟨_,rfl,rfl,Turn.refl _ _,ha⟩
    ·go_wp2
     exact⟨_,rfl,rfl,Turn.refl _ _,ha⟩
   ·have HE:b<n:=hO;go_wp2
    exact⟨_,rfl,rfl,Turn.refl _ _,ha⟩
   ·go_wp2
    exact⟨_,rfl,rfl,Turn.refl _ _,ha⟩
   ·have hc:=(ha.blk.cell (b*6)).trans ((hb.out.blkAt.cell (b*6)).symm.trans h7.out);have hl:=ha.blk.lt;go_wp2
    exact⟨_,rfl,rfl,Turn.refl _ _,ha⟩
   ·go_wp2
    exact⟨_,rfl,rfl,Turn.refl _ _,ha⟩
   ·obtain⟨hv,hX⟩:=ha.one (by omega);have hh:=hid hv;have Hn:=hid hX;have hg:=hid ha;clear hv hX ha ht;go_wp2_with fail
    refine (VY hh.out h5.out).mono ?_;rintro e w6 ⟨rfl,ho,Ha,hW⟩;go_wp2
    exact⟨_,rfl,rfl,hW,⟨fun e=>(by omega),fun _=>⟨ho,Mv.since Hn.out Ha⟩,fun _=>ho.made,(show HeapIs w6 mb _ _ from ho.made).cell 3,(show HeapIs w6 mb _ _ from ho.made).lt,ho.bbAt rfl,fun q hq=>Nat.lt_of_lt_of_le (hg.out.lt q hq) hW.size⟩⟩
   ·go_wp2
    exact⟨_,rfl,rfl,Turn.refl _ _,ha⟩
   ·have Hr:=ha.lt;go_wp2
    refine⟨_,rfl,Zdi _ (fun e=>?_),(Turn.refl _ _).alloc _,ha.keep ((Since.refl _).alloc _)⟩;rcases e with e|e
    ·have:=ha.lmb;omega
    ·have h9:=ha.lt w5.heap.size (.inl (.inr (.inr (.inr ⟨k,List.mem_of_getElem? HK.out,.inr (by rw[hs.out];exact e)⟩))));omega
   ·obtain⟨Hb,⟨oq,hZ,hY,Hw⟩,Hl⟩:=hk;obtain⟨hv,h2⟩:=ha.two (by omega);rw[hZ];have hh:=hid hv;have Hp:=hid h2;have Ho:=hid hY;have hg:=hid ha;clear Hb Hl hZ hY hv h2 ht ha;have hx:=hh.out.each k (List.mem_of_getElem? HK.out);have hA:=hx.phis;rw[hs.out]at hA;have Hc:=hid hA;have hS:=hid (hp.out.cur k HK.out);have h8:=hid (hg.out.three (by omega));have h6:=zH (¬ (Value.slice fa i2 fc).ownBlock=some mb) (fun e=>hh.out.mb_phis (List.mem_of_getElem? HK.out) (by rw[hs.out];exact e))
    clear hx hA;go_wp2_with (refine Zf (base:=0) fpcells 2 YR (by decide) rfl _ _ 55 rfl 60 (.agg #[.int .i64 0,.slice none 0 0]) 32 Tryz.underlying55 (by kernel_rfl) rfl (.slice fa i2 fc) k.phis ⟨m.next,[],.slice none 0 0⟩ oq 1 60 rfl rfl Hc.out Ho.out (by intro u hu;simp only[fpcells,List.mem_cons,List.not_mem_nil,or_false]at hu;rcases hu with rfl | rfl<;>rfl) (by rw[hS.out];unfold maxLen;omega) (by rw[hS.out];omega) (Nat.zero_le _) ?_;intro v' w' hG he hT)
    exact⟨_,rfl,⟨w5,hh.out,Hp.out,he.mono (fun q _ e=>.inl e),hT,hG,fun q hq e=>Zk hG (h8.out.turn he h6.out) (by decide) (e ▸ hq)⟩,he.mono (fun q _ e=>.inr e),⟨fun e=>(by omega),fun e=>(by omega),fun _=>h8.out.turn he h6.out,(he.cell (p:=⟨mb,3,none⟩) hg.out.lmb (fun e=>hh.out.mb_phis (List.mem_of_getElem? HK.out) (by rw[hs.out];exact e))).trans hg.out.c3,Nat.lt_of_lt_of_le hg.out.lmb he.size,hg.out.blk.turn he (fun e=>Zk (hh.out.each k (List.mem_of_getElem? HK.out)).phis (hh.out.bbAt rfl) (by decide) (by rw[hs.out];exact e)),fun q hq=>Nat.lt_of_lt_of_le (hg.out.lt q hq) he.size⟩⟩
  ·obtain rfl:v=i2:=by omega
   go_wp2_with fail
   exact HQ.out _ _ m (Zv rfl rfl (Za rfl (Za rfl (Za rfl (Za rfl (Za rfl (Za rfl (Zo _)))))))) hb.out hE.out (hp.out.leave hb.out.len h4.out) (hd.out.more (Nat.le_refl _) (by omega))
theorem Zgf (w:World) (sa:Option Addr) (sl sc:Nat) (l:List Int) (rows:List (Value × List Int)) (m:Zj) (r mb bb n tb pb:Nat) (ph:List Int) (x:Int) (a0:Act) (w1:World) (Q0:Exit→Act→World→Prop) (hU:Fr [(2,.pointer (some ⟨r,0,none⟩)),(3,.pointer (some ⟨mb,0,none⟩)),(4,.int .i64 n),(5,.slice (some ⟨tb,0,none⟩) n n),(7,.slice (some ⟨pb,0,none⟩) n n),(8,.int .i64 (1:Nat))] a0)
  (hy:MSt w (exP r pb ph) mb bb tb (.slice sa sl sc) l n rows m w1) (hH:1≤n∧n≤9) (h5:x≤100) (hm:Yh rows n m.bks) (hn:PhI ph n n 0 m) (hz:∀ (j:Nat) (v:Int),1≤j→ph[j]? = some v→v=0) (hC:Hd x (102+2*1) (3*1) m)
  (hQ:∀ a1 w2 (ph:List Int) (m:Zj),Fr [(2,.pointer (some ⟨r,0,none⟩)),(3,.pointer (some ⟨mb,0,none⟩)),(4,.int .i64 n),(5,.slice (some ⟨tb,0,none⟩) n n),(7,.slice (some ⟨pb,0,none⟩) n n)] a1→MSt w (exP r pb ph) mb bb tb (.slice sa sl sc) l n rows m w2→Yh rows n m.bks→PhI ph n n 0 m→Hd x (102+2*n) (3*n) m→Q0 .normal a1 w2):Code.wp Tryz.prog (mkCode [1,1,1,1,1,1,1,1,1,0,1]) Q0 a0 w1:=by
 obtain⟨u,hb,hu⟩:=Zr hU;obtain⟨g1,g2,s2,s3,s4,s5,s7,s8,g3⟩:=hU;have e2:=hu 2 _ s2;have e3:=hu 3 _ s3;have e4:=hu 4 _ s4;have e5:=hu 5 _ s5;have e7:=hu 7 _ s7;have e8:=hu 8 _ s8;rw[e2,e3,e4,e5,e7,e8]at hb;subst hb;clear hu g1 g2 g3 e2 s2 e3 s3 e4 s4 e5 s5 e7 s7 e8 s8
 conv=>arg 2;whnf
 have HQ:=hid hQ;clear hQ;go_wp2_with fail
 refine YC (fun t ac wr=>∃ (b:Nat) (ph:List Int) (m:Zj),t=n-b∧(1≤b∧b≤n)∧Fr [(2,.pointer (some ⟨r,0,none⟩)),(3,.pointer (some ⟨mb,0,none⟩)),(4,.int .i64 n),(5,.slice (some ⟨tb,0,none⟩) n n),(7,.slice (some ⟨pb,0,none⟩) n n),(8,.int .i64 b)] ac∧MSt w (exP r pb ph) mb bb tb (.slice sa sl sc) l n rows m wr∧Yh rows n m.bks∧PhI ph n n 0 m∧(∀ (j:Nat) (v:Int),b≤j→ph[j]? = some v→v=0)∧Hd x (102+2*b) (3*b) m) (n-1) ⟨1,ph,m,rfl,⟨Nat.le_refl _,hH.1⟩,(Zv rfl rfl (Za rfl (Za rfl (Za rfl (Za rfl (Za rfl (Za rfl (Zo _)))))))),hy,hm,hn,hz,hC⟩ ?_
 ·clear hy hm hn hz hC m ph;intro t a1 wr K hJ hK;have hO:=hid hK;clear hK;obtain⟨b,ph,m,rfl,⟨hN,h7⟩,hf,hy,hm,hn,hz,hC⟩:=hJ;obtain⟨u,hb,hu⟩:=Zr hf;obtain⟨g1,g2,s2,s3,s4,s5,s7,s8,g3⟩:=hf;have e2:=hu 2 _ s2;have e3:=hu 3 _ s3;have e4:=hu 4 _ s4;have e5:=hu 5 _ s5;have e7:=hu 7 _ s7;have e8:=hu 8 _ s8;rw[e2,e3,e4,e5,e7,e8]at hb;subst hb;clear hu g1 g2 g3 e2 s2 e3 s3 e4 s4 e5 s5 e7 s7 e8 s8;have hl:=hid hy;have ht:=hid hm;have hi:=hid hn;have HZ:=hid hz;have hD:=hid hC;clear hy hm hn hz hC;by_cases hk:b<n
  ·have hI:=hl.out.box;have h1:=hI.cell 2;have hZ:=hI.cell 3;have hY:=hI.lt;have hT:=ZaJ m.params m.bks (.slice (some ⟨bb,0,none⟩) n n) wr hl.out.fn.tos (by rw[hl.out.len];omega) b;have hV:=hid hT;clear hI hT;go_wp2_with fail
   refine hV.out.mono ?_;rintro e w9 ⟨pv,ps,rfl,hF,hR,hW⟩;obtain⟨pa,pc,hS⟩:=Ze hF;obtain⟨pl,hG⟩:∃ z,ps.length=z:=⟨_,rfl⟩
   rw[hG]at hS;subst hS;have hx:=hid (hl.out.keep hR);have h0:ph[b]? = some 0:=by
    obtain⟨v,hv,_⟩:=hi.out.at hk;rw[hv,HZ.out b v (Nat.le_refl _) hv]
   have H0:=hid h0;clear hF hR hW hG h0 h1 hZ hY hl hV;by_cases h6:1<pl
   ·go_wp2_with fail
    refine (Zz hx.out.ok 4 (by decide) (by have:=hD.out.at_;omega)).mono ?_;rintro e wa ⟨ma,⟨y,rfl,⟨hE,hM⟩,hB⟩,hA,mva⟩;obtain⟨yn,rfl⟩:=Int.eq_ofNat_of_zero_le hE;have hh:=hid (hx.out.mv hA mva);have ha:=hid hB;have ho:=hh.out.phAt.cell b;rw[List.getElem?_toArray,List.getElem?_map,H0.out]at ho
    replace ho:wa.cell? ⟨pb,b,none⟩=some (.int .i64 0):=ho
    have hG:=hh.out.phAt.lt;have hX:=hh.out.phAt.frozen b;have hL:=zH (Hd x (102+2*b+1) (3*b+0) ma) (hD.out.step (a':=1) (k':=0) (by rw[ha.out]) (by rw[ha.out]) (by rw[ha.out];exact Nat.le_refl _) (by rw[ha.out];simp) (by rw[ha.out]));have h2:yn≤3:=by omega
    clear hA mva hB hE hM;go_upto_block 4 with fail
    refine ZbF w sa sl sc l rows ma r mb bb n tb pb b yn (102+2*b+1) (ph.set b yn) x _ _ _ (Zv rfl rfl (Za rfl (Za rfl (Za rfl (Za rfl (Za rfl (Za rfl (Za rfl (Zo _))))))))) (hh.out.setP b yn) hH hk (List.getElem?_set_self (by rw[hi.out.len];exact hk)) (by omega) (by omega) (by rw[ha.out];exact ht.out) (hi.out.enter (by rw[ha.out]) (by rw[ha.out];exact Int.le_refl _) hk hN H0.out (by omega)) hL.out ?_;intro a1 w3 m3 hf hd hc he hg;obtain⟨u,hb,hu⟩:=Zr hf;obtain⟨g1,g2,s2,s3,s4,s5,s7,s8,g3⟩:=hf;have e2:=hu 2 _ s2;have e3:=hu 3 _ s3;have e4:=hu 4 _ s4;have e5:=hu 5 _ s5;have e7:=hu 7 _ s7;have e8:=hu 8 _ s8;rw[e2,e3,e4,e5,e7,e8]at hb;subst hb;clear hu g1 g2 g3 e2 s2 e3 s3 e4 s4 e5 s5 e7 s7 e8 s8;have hq:=hid hd;have hp:=hid hc;have hr:=hid he;have hs:=hid hg;clear hd hc he hg;go_wp2_with fail
    exact hO.out (n-(b+1)) _ _ (by omega) ⟨b+1,_,m3,rfl,⟨by omega,by omega⟩,(Zv rfl rfl (Za rfl (Za rfl (Za rfl (Za rfl (Za rfl (Za rfl (Zo _)))))))),hq.out,hp.out,hr.out,(fun j v hj hv=>HZ.out j v (by omega) (by rw[List.getElem?_set_ne (by omega)]at hv;exact hv)),hs.out.more (by omega) (by omega)⟩
   ·have h3:¬ (1:Int)<(pl:Int):=by omega
    go_wp2_with fail
    refine (Zz hx.out.ok 6 (by decide) (by have:=hD.out.at_;omega)).mono ?_;rintro e wa ⟨ma,⟨y,rfl,⟨hE,hM⟩,hB⟩,hA,mva⟩;have hh:=hid (hx.out.mv hA mva);have ha:=hid hB;have hL:=zH (Hd x (102+2*b+1) (3*b+0) ma) (hD.out.step (a':=1) (k':=0) (by rw[ha.out]) (by rw[ha.out]) (by rw[ha.out];exact Nat.le_refl _) (by rw[ha.out];simp) (by rw[ha.out]));clear hA mva hB;by_cases hP:y=0
    ·subst hP;have ho:=hh.out.phAt.cell b;rw[List.getElem?_toArray,List.getElem?_map,H0.out]at ho
     replace ho:wa.cell? ⟨pb,b,none⟩=some (.int .i64 0):=ho
     have hG:=hh.out.phAt.lt;have hX:=hh.out.phAt.frozen b;clear hE hM;go_upto_block 4 with fail
     refine ZbF w sa sl sc l rows ma r mb bb n tb pb b 1 (102+2*b+1) (ph.set b 1) x _ _ _ (Zv rfl rfl (Za rfl (Za rfl (Za rfl (Za rfl (Za rfl (Za rfl (Za rfl (Zo _))))))))) (hh.out.setP b 1) hH hk (List.getElem?_set_self (by rw[hi.out.len];exact hk)) (by omega) (by omega) (by rw[ha.out];exact ht.out) (hi.out.enter (by rw[ha.out]) (by rw[ha.out];exact Int.le_refl _) hk hN H0.out (by omega)) hL.out ?_;intro a1 w3 m3 hf hd hc he hg;obtain⟨u,hb,hu⟩:=Zr hf;obtain⟨g1,g2,s2,s3,s4,s5,s7,s8,g3⟩:=hf;have e2:=hu 2 _ s2;have e3:=hu 3 _ s3;have e4:=hu 4 _ s4;have e5:=hu 5 _ s5;have e7:=hu 7 _ s7;have e8:=hu 8 _ s8;rw[e2,e3,e4,e5,e7,e8]at hb;subst hb;clear hu g1 g2 g3 e2 s2 e3 s3 e4 s4 e5 s5 e7 s7 e8 s8;have hq:=hid hd;have hp:=hid hc;have hr:=hid he;have hs:=hid hg;clear hd hc he hg;go_wp2_with fail
     exact hO.out (n-(b+1)) _ _ (by omega) ⟨b+1,_,m3,rfl,⟨by omega,by omega⟩,(Zv rfl rfl (Za rfl (Za rfl (Za rfl (Za rfl (Za rfl (Za rfl (Zo _)))))))),hq.out,hp.out,hr.out,(fun j v hj hv=>HZ.out j v (by omega) (by rw[List.getElem?_set_ne (by omega)]at hv;exact hv)),hs.out.more (by omega) (by omega)⟩
    ·have h4:(y==0)=false:=by simpa using hP
     go_upto_block 4 with fail
     refine ZbF w sa sl sc l rows ma r mb bb n tb pb b 0 (102+2*b+1) ph x _ _ _ (Zv rfl rfl (Za rfl (Za rfl (Za rfl (Za rfl (Za rfl (Za rfl (Za rfl (Zo _))))))))) hh.out hH hk H0.out (by omega) (by omega) (by rw[ha.out];exact ht.out) (hi.out.enter0 (by rw[ha.out]) (by rw[ha.out];exact Int.le_refl _) hk hN H0.out) hL.out ?_;intro a1 w3 m3 hf hd hc he hg;obtain⟨u,hb,hu⟩:=Zr hf;obtain⟨g1,g2,s2,s3,s4,s5,s7,s8,g3⟩:=hf;have e2:=hu 2 _ s2;have e3:=hu 3 _ s3;have e4:=hu 4 _ s4;have e5:=hu 5 _ s5;have e7:=hu 7 _ s7;have e8:=hu 8 _ s8;rw[e2,e3,e4,e5,e7,e8]at hb;subst hb;clear hu g1 g2 g3 e2 s2 e3 s3 e4 s4 e5 s5 e7 s7 e8 s8;have hq:=hid hd;have hp:=hid hc;have hr:=hid he;have hs:=hid hg;clear hd hc he hg;go_wp2_with fail
     exact hO.out (n-(b+1)) _ _ (by omega) ⟨b+1,_,m3,rfl,⟨by omega,by omega⟩,(Zv rfl rfl (Za rfl (Za rfl (Za rfl (Za rfl (Za rfl (Za rfl (Zo _)))))))),hq.out,hp.out,hr.out,(fun j v hj hv=>HZ.out j v (by omega) hv),hs.out.more (by omega) (by omega)⟩
  ·obtain rfl:n=b:=by omega
   go_wp2_with fail
   exact HQ.out _ _ ph m (Zv rfl rfl (Za rfl (Za rfl (Za rfl (Za rfl (Za rfl (Zo _))))))) hl.out ht.out hi.out hD.out
theorem Zgj (w wo:World) (ex:List Bx) (sa:Option Addr) (sl sc:Nat) (l:List Int) (rows:List (Value × List Int)) (m:Zj) (r mb bb n tb pb db tn b vc:Nat) (va:Option Addr) (rdy:Bool) (a0:Act) (w1:World) (Q0:Exit→Act→World→Prop) (hv:Fr [(2,.pointer (some ⟨r,0,none⟩)),(3,.pointer (some ⟨mb,0,none⟩)),(4,.int .i64 n),(5,.slice (some ⟨tb,0,none⟩) n n),(7,.slice (some ⟨pb,0,none⟩) n n),(11,.slice (some ⟨db,0,none⟩) n n),(12,.int .i64 tn),(13,.int .i64 b),(14,.bool rdy),(15,.slice va 0 vc),(16,.int .i64 0)] a0)
  (hq:MSt w ex mb bb tb (.slice sa sl sc) l n rows m wo) (hI:n≤9) (hd:X6 wo m.bks n (.slice va 0 vc) [] w1)
  (hQ:∀ a1 w2 va vc aw,Fr [(2,.pointer (some ⟨r,0,none⟩)),(3,.pointer (some ⟨mb,0,none⟩)),(4,.int .i64 n),(5,.slice (some ⟨tb,0,none⟩) n n),(7,.slice (some ⟨pb,0,none⟩) n n),(11,.slice (some ⟨db,0,none⟩) n n),(12,.int .i64 tn),(13,.int .i64 b),(14,.bool rdy),(15,.slice va n vc)] a1→X6 wo m.bks n (.slice va n vc) aw w2→aw.length=n→Q0 .normal a1 w2):Code.wp Tryz.prog (mkCode [1,1,1,1,1,1,1,1,1,1,1,0,1,0,0,1,0,0,1,0,0,1,0,0,1,1,0,1]) Q0 a0 w1:=by
 obtain⟨u,he,hu⟩:=Zr hv;obtain⟨g1,g2,s2,s3,s4,s5,s7,s11,s12,s13,s14,s15,s16,g3⟩:=hv;have e2:=hu 2 _ s2;have e3:=hu 3 _ s3;have e4:=hu 4 _ s4;have e5:=hu 5 _ s5;have e7:=hu 7 _ s7;have e11:=hu 11 _ s11;have e12:=hu 12 _ s12;have e13:=hu 13 _ s13;have e14:=hu 14 _ s14;have e15:=hu 15 _ s15;have e16:=hu 16 _ s16;rw[e2,e3,e4,e5,e7,e11,e12,e13,e14,e15,e16]at he;subst he;clear hu g1 g2 g3 e2 s2 e3 s3 e4 s4 e5 s5 e7 s7 e11 s11 e12 s12 e13 s13 e14 s14 e15 s15 e16 s16
 conv=>arg 2;whnf
 have HQ:=hid hQ;have hA:=hid hq;clear hQ hq;go_wp2_with fail
 refine YC (fun t ac wr=>∃ (a:Nat) (aw:List (Nat × List Bool)) (va:Option Addr) (vc:Nat),t=n-a∧a≤n∧aw.length=a∧Fr [(2,.pointer (some ⟨r,0,none⟩)),(3,.pointer (some ⟨mb,0,none⟩)),(4,.int .i64 n),(5,.slice (some ⟨tb,0,none⟩) n n),(7,.slice (some ⟨pb,0,none⟩) n n),(11,.slice (some ⟨db,0,none⟩) n n),(12,.int .i64 tn),(13,.int .i64 b),(14,.bool rdy),(15,.slice va a vc),(16,.int .i64 a)] ac∧X6 wo m.bks n (.slice va a vc) aw wr) n ⟨0,[],va,vc,rfl,Nat.zero_le _,rfl,(Zv rfl rfl (Za rfl (Za rfl (Za rfl (Za rfl (Za rfl (Za rfl (Za rfl (Za rfl (Za rfl (Za rfl (Za rfl (Zo _))))))))))))),hd⟩ ?_
 ·clear hd va vc;intro t a1 wr K hJ hK;have hG:=hid hK;clear hK;obtain⟨a,aw,va,vc,rfl,hM,hx,hf,hd⟩:=hJ;obtain⟨u,he,hu⟩:=Zr hf;obtain⟨g1,g2,s2,s3,s4,s5,s7,s11,s12,s13,s14,s15,s16,g3⟩:=hf;have e2:=hu 2 _ s2;have e3:=hu 3 _ s3;have e4:=hu 4 _ s4;have e5:=hu 5 _ s5;have e7:=hu 7 _ s7;have e11:=hu 11 _ s11;have e12:=hu 12 _ s12;have e13:=hu 13 _ s13;have e14:=hu 14 _ s14;have e15:=hu 15 _ s15;have e16:=hu 16 _ s16;rw[e2,e3,e4,e5,e7,e11,e12,e13,e14,e15,e16]at he;subst he;clear hu g1 g2 g3 e2 s2 e3 s3 e4 s4 e5 s5 e7 s7 e11 s11 e12 s12 e13 s13 e14 s14 e15 s15 e16 s16;have hg:=hid hd;have hb:=hid hx;clear hd hx;by_cases hL:a<n
  ·have ha:=hA.out.keep hg.out.old;have hh:=ha.box;have hE:=hh.cell 2;have hD:=hh.cell 3;have hC:=hh.lt;have hr:=KD m.params m.bks (.slice (some ⟨bb,0,none⟩) n n) wr ha.fn.tos (by rw[ha.len];omega) a;have hF:=hid hr;have hm:=hid ha.len;have hl:=hid (hg.out.old.size);clear ha hh hr;go_wp2_with fail
   refine hF.out.mono ?_;rintro e w9 ⟨ob,rout,rfl,ht,hz,hi,hj,hs,hk⟩;rw[hm.out]at hj hk;have HP:=zH (HeapIs (w9.alloc (.cells #[awv n (ob,rout)] 129)) ob (rout.map Value.bool).toArray 4∧wo.heap.size≤ob∧rout.length=n) ⟨ht.keep ((Since.refl _).alloc _),by have:=hl.out;omega,hj⟩;have HC:=zH (ZdF m.bks n aw.length rout) ⟨fun h=>hs (by rw[hb.out]at h;exact h),fun c b2 y h1 h2 h3 h4 h5 h6=>hk c b2 y h1 h2 h3 h4 h5 (by rw[hb.out]at h6;exact h6)⟩;rw[hm.out];have hy:=hid hi;have hB:=zH (wo.heap.size≤w9.heap.size) (by have:=hl.out;have:=hi.size;omega);clear ht hz hi hj hs hk hE hD hC;go_wp2_with (refine Zf (base:=wo.heap.size) (awc n) 1 (fun _=>rfl) (by decide) rfl _ _ 130 rfl 129 (.slice none 0 0) 24 Tryz.underlying130 (by kernel_rfl) rfl (.slice va a vc) aw (ob,rout) w9.heap.size 1 129 rfl rfl (by have h:=OwnRow.keep hg.out.own (hy.out.trans ((Since.refl _).alloc (.cells #[awv n (ob,rout)] 129)));exact h) (Z2 _ _) (by intro u hu;rw[List.mem_singleton.1 hu];rfl) (by rw[hb.out];unfold maxLen;omega) (by rw[hb.out];omega) (by have:=hB.out;simp;omega) ?_;intro v' w' hc hp hn;have hH:=hid (hg.out.add (hy.out.trans ((Since.refl _).alloc _)) HP.out HC.out hc hp);obtain⟨va2,vc2,ho⟩:=Ze (show w'.ownsRow _ _ _ _ _ _ from hc);rw[show (aw++[(ob,rout)]).length=a+1 from by rw[List.length_append,hb.out];rfl]at ho;subst ho;clear hc hp hn)
   exact hG.out (n-(a+1)) _ _ (by omega) ⟨a+1,_,va2,vc2,rfl,by omega,by rw[List.length_append,hb.out];rfl,(Zv rfl rfl (Za rfl (Za rfl (Za rfl (Za rfl (Za rfl (Za rfl (Za rfl (Za rfl (Za rfl (Za rfl (Za rfl (Zo _))))))))))))),hH.out⟩
  ·obtain rfl:n=a:=by omega
   go_wp2_with fail
   exact HQ.out _ _ _ _ _ (Zv rfl rfl (Za rfl (Za rfl (Za rfl (Za rfl (Za rfl (Za rfl (Za rfl (Za rfl (Za rfl (Za rfl (Zo _)))))))))))) hg.out hb.out
structure MvC (m m':Zj) (a n i:Nat):Prop where
 at_:m'.at_≤m.at_+a
 next:m.next≤m'.next∧m'.next≤m.next+n
 total:m'.total≤m.total+i
 live:m'.live.length≤m.live.length+2*i
 same:m'.params=m.params∧(m'.bks.map fun b=>(b.phis,b.phv,b.term))=m.bks.map fun b=>(b.phis,b.phv,b.term)
theorem MvC.refl (m:Zj):MvC m m 0 0 0:=⟨by omega,by omega,by omega,by omega,rfl,rfl⟩
theorem MvC.trans {m m' m'':Zj} {a n i a' n' i':Nat} (h:MvC m m' a n i) (k:MvC m' m'' a' n' i'):MvC m m'' (a+a') (n+n') (i+i'):=
 ⟨by have:=h.at_;have:=k.at_;omega,by have:=h.next;have:=k.next;omega,by have:=h.total;have:=k.total;omega,by have:=h.live;have:=k.live;omega,k.same.1.trans h.same.1,k.same.2.trans h.same.2⟩
theorem MvC.more {m m':Zj} {a n i a' n' i':Nat} (h:MvC m m' a n i) (ha:a≤a':=by decide) (hn:n≤n':=by decide) (hi:i≤i':=by decide):MvC m m' a' n' i':=
 ⟨by have:=h.at_;omega,by have:=h.next;omega,by have:=h.total;omega,by have:=h.live;omega,h.same⟩
theorem Mv.c {mb:Nat} {bv:Value} {w w':World} {m m':Zj} {a n i:Nat} (h:Mv mb bv w m w' m' a n i):MvC m m' a n i:=⟨h.at_,h.next,h.total,h.live,h.same⟩
theorem MvC.sm {m m':Zj} {i : Nat} (h:MvC m m' (30*i) (6*i) (7*i)) (hs:m.at_≤5000∧m.next≤5000∧m.total≤5000∧m.live.length≤15000) (hi:i≤6):Sm 10 m':=
 ⟨by have:=h.at_;omega,by have:=h.next;omega,by have:=h.total;omega,by have:=h.live;omega⟩
theorem Zha {m : Zj} {e : Ending} (h:QP m e):e=.returned (.tuple #[]):=h
theorem Zfl (w:World) (ex:List Bx) (sa:Option Addr) (sl sc:Nat) (l:List Int) (rows:List (Value × List Int)) (m:Zj) (r mb bb n tb pb db tn b q:Nat) (a0:Act) (w1:World) (Q0:Exit→Act→World→Prop) (hk:Fr [(2,.pointer (some ⟨r,0,none⟩)),(3,.pointer (some ⟨mb,0,none⟩)),(4,.int .i64 n),(5,.slice (some ⟨tb,0,none⟩) n n),(7,.slice (some ⟨pb,0,none⟩) n n),(11,.slice (some ⟨db,0,none⟩) n n),(12,.int .i64 tn),(13,.int .i64 b),(23,.int .i64 q),(24,.int .i64 0)] a0)
  (ha:MSt w ex mb bb tb (.slice sa sl sc) l n rows m w1) (hb:b<n) (hp:n≤9) (ho:q≤6) (hh:m.at_≤5000∧m.next≤5000∧m.total≤5000∧m.live.length≤15000)
  (hQ:∀ a1 w2 m2,Fr [(2,.pointer (some ⟨r,0,none⟩)),(3,.pointer (some ⟨mb,0,none⟩)),(4,.int .i64 n),(5,.slice (some ⟨tb,0,none⟩) n n),(7,.slice (some ⟨pb,0,none⟩) n n),(11,.slice (some ⟨db,0,none⟩) n n),(12,.int .i64 tn),(13,.int .i64 b)] a1→MSt w ex mb bb tb (.slice sa sl sc) l n rows m2 w2→MvC m m2 180 36 42→Q0 .normal a1 w2):Code.wp Tryz.prog (mkCode [1,1,1,1,1,1,1,1,1,1,1,0,1,0,0,1,0,0,1,0,0,1,0,0,1,1,1,1,1,1,1,1,1,1,0,1]) Q0 a0 w1:=by
 obtain⟨u,hc,hu⟩:=Zr hk;obtain⟨g1,g2,s2,s3,s4,s5,s7,s11,s12,s13,s23,s24,g3⟩:=hk;have e2:=hu 2 _ s2;have e3:=hu 3 _ s3;have e4:=hu 4 _ s4;have e5:=hu 5 _ s5;have e7:=hu 7 _ s7;have e11:=hu 11 _ s11;have e12:=hu 12 _ s12;have e13:=hu 13 _ s13;have e23:=hu 23 _ s23;have e24:=hu 24 _ s24;rw[e2,e3,e4,e5,e7,e11,e12,e13,e23,e24]at hc;subst hc;clear hu g1 g2 g3 e2 s2 e3 s3 e4 s4 e5 s5 e7 s7 e11 s11 e12 s12 e13 s13 e23 s23 e24 s24
 conv=>arg 2;whnf
 have HQ:=hid hQ;have HS:=hid hh;clear hQ hh;go_wp2_with fail
 refine YC (fun t ac wr=>∃ (i:Nat) (m2:Zj),t=q-i∧i≤q∧Fr [(2,.pointer (some ⟨r,0,none⟩)),(3,.pointer (some ⟨mb,0,none⟩)),(4,.int .i64 n),(5,.slice (some ⟨tb,0,none⟩) n n),(7,.slice (some ⟨pb,0,none⟩) n n),(11,.slice (some ⟨db,0,none⟩) n n),(12,.int .i64 tn),(13,.int .i64 b),(23,.int .i64 q),(24,.int .i64 i)] ac∧MSt w ex mb bb tb (.slice sa sl sc) l n rows m2 wr∧MvC m m2 (30*i) (6*i) (7*i)) q ⟨0,m,rfl,Nat.zero_le _,(Zv rfl rfl (Za rfl (Za rfl (Za rfl (Za rfl (Za rfl (Za rfl (Za rfl (Za rfl (Za rfl (Za rfl (Zo _)))))))))))),ha,MvC.refl m⟩ ?_
 ·clear ha;intro t a1 wr K hJ hK;have hn:=hid hK;clear hK;obtain⟨i,m2,rfl,hr,hf,ha,hj⟩:=hJ;obtain⟨u,hc,hu⟩:=Zr hf;obtain⟨g1,g2,s2,s3,s4,s5,s7,s11,s12,s13,s23,s24,g3⟩:=hf;have e2:=hu 2 _ s2;have e3:=hu 3 _ s3;have e4:=hu 4 _ s4;have e5:=hu 5 _ s5;have e7:=hu 7 _ s7;have e11:=hu 11 _ s11;have e12:=hu 12 _ s12;have e13:=hu 13 _ s13;have e23:=hu 23 _ s23;have e24:=hu 24 _ s24;rw[e2,e3,e4,e5,e7,e11,e12,e13,e23,e24]at hc;subst hc;clear hu g1 g2 g3 e2 s2 e3 s3 e4 s4 e5 s5 e7 s7 e11 s11 e12 s12 e13 s13 e23 s23 e24 s24;have hd:=hid ha;have hg:=hid hj;clear ha hj;by_cases hq:i<q
  ·go_wp2_with fail
   refine (Zag hd.out.ok (hg.out.sm HS.out (by omega)) b (by rw[hd.out.len];exact hb)).mono ?_;rintro e w2 ⟨m3,hU,hi,he⟩;have hl:=hid (hd.out.mv hi he);have hm:=hid (hg.out.trans he.c);obtain rfl:=Zha hU;clear hi he hU;go_wp2_with fail
   exact hn.out (q-(i+1)) _ _ (by omega) ⟨i+1,m3,rfl,by omega,(Zv rfl rfl (Za rfl (Za rfl (Za rfl (Za rfl (Za rfl (Za rfl (Za rfl (Za rfl (Za rfl (Za rfl (Zo _)))))))))))),hl.out,hm.out⟩
  ·obtain rfl:q=i:=by omega
   go_wp2_with fail
   exact HQ.out _ _ _ (Zv rfl rfl (Za rfl (Za rfl (Za rfl (Za rfl (Za rfl (Za rfl (Za rfl (Za rfl (Zo _)))))))))) hd.out (hg.out.more (by omega) (by omega) (by omega))
section
variable {w0 w w':World} {ex aex:List Bx} {mb bb tb r pb db:Nat} {sv v:Value} {l : List Int} {n : Nat} {rows:List (Value × List Int)} {m m' m1 m2 m3:Zj} {ph:List Int} {dn:List Bool} {aw:List (Nat × List Bool)} {x : Int}
theorem MSt.setDx (h:MSt w0 (exD r pb db ph dn++aex) mb bb tb sv l n rows m w) (ha:∀ x∈aex,x.q≠db) (j:Nat) (v:Bool):MSt w0 (exD r pb db ph (dn.set j v)++aex) mb bb tb sv l n rows m (w.setCell ⟨db,j,none⟩ (.bool v)):=by
 have t:Turn (fun q=>q=db) w (w.setCell ⟨db,j,none⟩ (.bool v)):=(Turn.refl (fun q=>q=db) w).setCell (p:=⟨db,j,none⟩) rfl _;have hb:∀ x∈exD r pb db ph dn++aex,HeapIs w x.q x.cs x.ty:=fun x hx=>(h.boxes x hx).1
 have hr:=hb (bxR r) (by simp[exD]);have hp:=hb (bxP pb ph) (by simp[exD]);have hd:=hb (bxD db dn) (by simp[exD]);refine h.beside t (fun q _ e=>⟨bxD db dn,by simp[exD],e.symm⟩) fun x hx=>?_
 rcases List.mem_append.1 hx with hx|hx
 ·rcases List.mem_cons.1 hx with rfl|hx
  ·exact⟨hr.turn t (Y4 hr hd (show (24:TypeId)≠4 by decide)),.inl ⟨bxR r,by simp[exD],rfl⟩⟩
  ·rcases List.mem_cons.1 hx with rfl|hx
   ·exact⟨hp.turn t (Y4 hp hd (show (3:TypeId)≠4 by decide)),.inl ⟨bxP pb ph,by simp[exD],rfl⟩⟩
   ·rw[List.mem_singleton.1 hx];refine⟨?_,.inl ⟨bxD db dn,by simp[exD],rfl⟩⟩;have h1:=HeapIs.set hd j (.bool v);show HeapIs _ db ((dn.set j v).map Value.bool).toArray 4
    rw[List.map_set];simpa [bxD]using h1
 ·exact⟨(hb x (List.mem_append_right _ hx)).turn t (ha x hx),.inl ⟨x,List.mem_append_right _ hx,rfl⟩⟩
theorem MSt.away (h:MSt w0 (exD r pb db ph dn) mb bb tb sv l n rows m w) (ha:X6 w m.bks n v aw w') (hl:0<aw.length):∃ vb cap cur,v=.slice (some ⟨vb,0,none⟩) aw.length cap∧MSt w0 (exD r pb db ph dn++awEx vb cur aw) mb bb tb sv l n rows m w'∧(∀ x∈awEx vb cur aw,x.q≠db)∧∀ (a:Nat) (p:Nat × List Bool),aw[a]? = some p→cur[a]? = some (awv n p):=by
 obtain⟨vb,cap,cur,hv,_,_,hc,hx⟩:=ha.open hl;refine⟨vb,cap,cur,hv,h.beside (T:=fun _=>False) (Turn.since ha.old) (fun q _ e=>e.elim) fun x hb=>?_,fun x hb e=>?_,hc⟩
 ·rcases List.mem_append.1 hb with hb|hb
  ·exact⟨(h.boxes x hb).1.keep ha.old,.inl ⟨x,hb,rfl⟩⟩
  ·exact⟨(hx x hb).1,.inr (hx x hb).2⟩
 ·have h1:=(h.boxes (bxD db dn) (by simp[exD])).1.lt;have h2:=(hx x hb).2;rw[e]at h2;exact absurd h1 (by simp only[bxD];omega)
theorem ZcX {bks:List FBlk} {vb b:Nat} {cur:Array Value} (pre:List Bx) (ha:X6 w bks n v aw w') (hl:aw.length=n) (hc:∀ (a:Nat) (p:Nat × List Bool),aw[a]? = some p→cur[a]? = some (awv n p)) (hb:b<n):Zg8 (pre++awEx vb cur aw) vb n b cur:=by
 refine⟨List.mem_append_right _ (List.mem_cons_self),fun a he=>?_⟩;obtain⟨p,hp⟩:∃ p,aw[a]? = some p:=⟨_,List.getElem?_eq_getElem (by rw[hl];exact he)⟩
 have hm:=List.mem_of_getElem? hp;obtain⟨rb,hd⟩:∃ z,p.2[b]? = some z:=⟨_,List.getElem?_eq_getElem (by rw[(ha.each p hm).2.2];exact hb)⟩
 exact⟨p.1,p.2,rb,hc a p hp,List.mem_append_right _ (List.mem_cons_of_mem _ (List.mem_map.2 ⟨p,hm,rfl⟩)),hd⟩
theorem Ze5 {vb b:Nat} {cur:Array Value} {pre:List Bx} (h:MSt w0 (pre++awEx vb cur aw) mb bb tb sv l n rows m w') (ha:X6 w m.bks n v aw w') (hl:aw.length=n) (hc:∀ (a:Nat) (p:Nat × List Bool),aw[a]? = some p→cur[a]? = some (awv n p)) (hb:b<n) (ht:Yh rows n m.bks) (hg:XQ rows n) :
  (∀ a,a<n→∃ (ob:Nat) (rb:Bool),w'.cell? ⟨vb,a,none⟩=some (.slice (some ⟨ob,0,none⟩) n n)∧vb<w'.heap.size∧w'.cell? ⟨ob,b,none⟩=some (.bool rb)∧ob<w'.heap.size) ∧
  ∀ (a ob:Nat) (rb:Bool),a<n→w'.cell? ⟨vb,a,none⟩=some (.slice (some ⟨ob,0,none⟩) n n)→w'.cell? ⟨ob,b,none⟩=some (.bool rb)→b<a→rb=true:=by
 obtain⟨hv,hi⟩:=ZcX (vb:=vb) (cur:=cur) pre ha hl hc hb;have he:=(h.boxes _ hv).1;have key:∀ a,a<n→∃ p,aw[a]? = some p∧w'.cell? ⟨vb,a,none⟩=some (awv n p)∧HeapIs w' p.1 (p.2.map Value.bool).toArray 4:=fun a hd=>by
  obtain⟨p,hp⟩:∃ p,aw[a]? = some p:=⟨_,List.getElem?_eq_getElem (by rw[hl];exact hd)⟩
  exact⟨p,hp,(he.cell a).trans (hc a p hp),(ha.each p (List.mem_of_getElem? hp)).1⟩
 refine⟨fun a hd=>?_,fun a ob rb hd h1 h2 hh=>?_⟩
 ·obtain⟨p,hp,h1,h2⟩:=key a hd;obtain⟨rb,hf⟩:∃ z,p.2[b]? = some z:=⟨_,List.getElem?_eq_getElem (by rw[(ha.each p (List.mem_of_getElem? hp)).2.2];exact hb)⟩
  refine⟨p.1,rb,h1,he.lt,?_,h2.lt⟩;rw[h2.cell b,List.getElem?_toArray,List.getElem?_map,hf];rfl
 ·obtain⟨p,hp,h3,h4⟩:=key a hd;rw[h3]at h1;have h1:p.1=ob:=by
   have h5:=Option.some.inj h1;unfold awv at h5;injection h5 with h6
   injection h6 with h7
   injection h7
  have h5:=KE (ha.cl a p hp) ht hg h.len (b+1) b (by omega) hh hb;rw[←h1,h4.cell b,List.getElem?_toArray,List.getElem?_map,h5]at h2;injection h2 with h2
  injection h2 with h2
  exact h2.symm
theorem MvC.at {a k i:Nat} (h:MvC m m' a k i) {j : Nat} {k':FBlk} (hk:m'.bks[j]? = some k'):∃ k,m.bks[j]? = some k∧k'.phis=k.phis∧k'.term=k.term:=by
 have h1:=congrArg (fun x=>x[j]?) h.same.2;simp only[List.getElem?_map,hk,Option.map_some]at h1;obtain⟨k2,h2,h3⟩:=Option.map_eq_some_iff.1 h1.symm;exact⟨k2,h2,(congrArg (fun x=>x.1) h3).symm,(congrArg (fun x=>x.2.2) h3).symm⟩
theorem MvT.at {bv:Value} {a k i b:Nat} {t : Zt} (h:MvT mb bv w m w' m' a k i b t) {j : Nat} {k':FBlk} (hk:m'.bks[j]? = some k'):∃ k,m.bks[j]? = some k∧k'.phis=k.phis∧((j≠b∧k'.term=k.term)∨(j=b∧k'.term=t)):=by
 obtain⟨k0,hb,hs⟩:=h.same;have h1:=congrArg (fun x=>x[j]?) hs;simp only[List.getElem?_map,hk,Option.map_some]at h1;rcases ZF h1.symm with ⟨rfl,h2⟩|⟨ha,h2⟩
 ·exact⟨k0,hb,congrArg (fun x=>x.1) h2,.inr ⟨rfl,congrArg (fun x=>x.2.2) h2⟩⟩
 ·rw[List.getElem?_map]at h2;obtain⟨k2,h3,h4⟩:=Option.map_eq_some_iff.1 h2;exact⟨k2,h3,(congrArg (fun x=>x.1) h4).symm,.inl ⟨ha,(congrArg (fun x=>x.2.2) h4).symm⟩⟩
theorem MvT.len {bv:Value} {a k i b:Nat} {t : Zt} (h:MvT mb bv w m w' m' a k i b t):m'.bks.length=m.bks.length:=by
 obtain⟨k0,_,hs⟩:=h.same;have:=congrArg List.length hs;simpa using this
theorem PhI.same {n b i:Nat} (h:PhI ph n b i m) (hs:∀ (j:Nat) (k':FBlk),m'.bks[j]? = some k'→∃ k,m.bks[j]? = some k∧k'.phis=k.phis) (hn:m.next≤m'.next):PhI ph n b i m':=by
 refine⟨h.len,h.few,h.zero,fun k hk p hp=>?_,fun j k v hj hk hv=>?_,fun k hk=>?_⟩
 ·obtain⟨j,hj⟩:=List.getElem?_of_mem hk;obtain⟨k0,h0,h1⟩:=hs j k hj;rw[h1]at hp;have:=h.phi k0 (List.mem_of_getElem? h0) p hp;exact⟨⟨this.1.1,by have:=this.1.2;omega⟩,this.2⟩
 ·obtain⟨k0,h0,h1⟩:=hs j k hk;rw[h1];exact h.cnt j k0 v hj h0 hv
 ·obtain⟨k0,h0,h1⟩:=hs b k hk;rw[h1];exact h.cur k0 h0
theorem Lp.more {bv:Value} {b : Nat} {t : Zt} (h:Lp x ph n b m) (h1:m1.bks=m.bks∧m1.next=m.next∧m1.params=m.params∧m1.at_=m.at_+1) (hd:m1.live.length≤9004) (h2:MvC m1 m2 180 36 42) (h3:MvT mb bv w m2 w' m3 13 3 3 b t) (ht:Y6 m3.next n t):Lp x ph n (b+1) m3:=by
 have hp:∀ (j:Nat) (k':FBlk),m3.bks[j]? = some k'→∃ k,m.bks[j]? = some k∧k'.phis=k.phis∧((j≠b∧k'.term=k.term)∨(j=b∧k'.term=t)):=fun j k' hk=>by
  obtain⟨k2,hc,e2,e3⟩:=h3.at hk;obtain⟨k1,hb,e4,e5⟩:=h2.at hc;rw[h1.1]at hb;refine⟨k1,hb,e2.trans e4,?_⟩;rcases e3 with ⟨a1,a2⟩|a1
  ·exact .inl ⟨a1,a2.trans e5⟩
  ·exact .inr a1
 have ha:m.next≤m3.next:=by have:=h2.next.1;have:=h3.next.1;have:=h1.2.1;omega
 refine⟨h.phs.same (fun j k' hk=>by obtain⟨k,a1,a2,_⟩:=hp j k' hk;exact⟨k,a1,a2⟩) ha,?_,?_,?_,?_,by have:=h2.live;have:=h3.live;omega,fun j k' hj hk=>?_⟩
 ·have:=h.at_;have:=h2.at_;have:=h3.at_;have:=h1.2.2.2;omega
 ·have:=h.next;have:=h2.next.2;have:=h3.next.2;have:=h1.2.1;omega
 ·exact h3.params.trans (h2.same.1.trans (h1.2.2.1.trans h.params))
 ·have e:m1.total=m.total:=by unfold Zj.total;rw[h1.1]
  have:=h.total;have:=h2.total;have:=h3.total;omega
 ·obtain⟨k,a1,_,a3⟩:=hp j k' hk;rcases a3 with ⟨a3,a4⟩|⟨a3,a4⟩
  ·rw[a4];exact (h.terms j k (by omega) a1).mono ha
  ·rw[a4];exact ht
theorem Yh.more {bv:Value} {b : Nat} {t : Zt} {rw_:Value × List Int} (h:Yh rows n m1.bks) (h2:MvC m1 m2 180 36 42) (h3:MvT mb bv w m2 w' m3 13 3 3 b t) (hr:rows[b]? = some rw_) (ht:t.to=rw_.2):Yh rows n m3.bks:=fun j k' r hj hk ha=>by
 obtain⟨k2,hb,_,e3⟩:=h3.at hk
 obtain⟨k1,hc,_,e5⟩:=h2.at hb
 rcases e3 with ⟨_,a2⟩|⟨rfl,a2⟩
 ·rw[a2,e5];exact h j k1 r hj hc ha
 ·rw[a2,ht,Option.some.inj (hr.symm.trans ha)]
theorem Lp.blk {d : Nat} (h:Lp x ph n d m) (hl:m.bks.length=n) (hd:d≤9):∀ (a:Nat) (k:FBlk),m.bks[a]? = some k→((∀ p∈k.phis,0≤p.dst∧p.dst<m.next)∧k.phis.length≤3)∧k.ins.length≤450:=fun a k hk=>by
 have ha:=List.mem_of_getElem? hk
 have hb:a<n:=by have:=(List.getElem?_eq_some_iff.1 hk).1;omega
 obtain⟨v,hv,h0,h3⟩:=h.phs.at hb
 have h1:=h.phs.cnt a k v (by omega) hk hv
 have h2:=J2 ha
 have h4:=h.total
 exact⟨⟨fun p hp=>(h.phs.phi k ha p hp).1,by omega⟩,by omega⟩
theorem ZbA (w:World):(w.alloc (.cells #[] 3)).ownsRow 0 3 1 (.slice (some ⟨w.heap.size,0,none⟩) 0 0) ([]:List Int).length (([]:List Int).map (Value.int .i64)):=
 Jt (f:=fun (y:Int)=>[Value.int .i64 y]) w 0 (Nat.zero_le _)
end
end Go.Proofs.YtmhojfpidedjeaaGreatDoor
