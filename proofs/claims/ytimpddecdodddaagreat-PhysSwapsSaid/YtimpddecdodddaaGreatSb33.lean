import Derived.Test.YtimpddecdodddaaGreatSb32
namespace Go.Proofs.YtimpddecdodddaaGreat
open Go.RowKit Go.Lib
set_option linter.unusedVariables false
set_option maxHeartbeats 8000000
set_option maxRecDepth 1000000
theorem zq {P:Prop} (h:P:=by
 intro a1 w3 m3 hf hd hc he hg;obtain⟨u,hb,hu⟩:=Zq hf;obtain⟨g1,g2,s2,s3,s4,s5,s7,s8,g3⟩:=hf;have e2:=hu 2 _ s2;have e3:=hu 3 _ s3;have e4:=hu 4 _ s4;have e5:=hu 5 _ s5;have e7:=hu 7 _ s7;have e8:=hu 8 _ s8;rw[e2,e3,e4,e5,e7,e8]at hb;subst hb;clear hu g1 g2 g3 e2 s2 e3 s3 e4 s4 e5 s5 e7 s7 e8 s8;have hq:=hid hd;have hp:=hid hc;have hr:=hid he;have hs:=hid hg;clear hd hc he hg;go_wp2_with fail
 exact hN.out (n-(b+1)) _ _ (by omega) ⟨b+1,_,m3,rfl,⟨by omega,by omega⟩,(Zu rfl rfl (Za rfl (Za rfl (Za rfl (Za rfl (Za rfl (Za rfl (Zh _)))))))),hq.out,hp.out,hr.out,(fun j v hj hv=>HZ.out j v (by omega) (by rw[List.getElem?_set_ne (by omega)]at hv;exact hv)),hs.out.more (by omega) (by omega)⟩):P:=h
theorem kP {P:Prop} (h:P:=by rw[ha.out]):P:=h
theorem Zeo (w:World) (ex:List Bx) (sa:Option Addr) (sl sc:Nat) (l:List Int) (rows:List (Value × List Int)) (m:MkSt) (r mb bb n tb:Nat) (a0:Act) (w1:World) (Q0:Exit→Act→World→Prop) (hw:Fr [(2,.pointer (some ⟨r,0,none⟩)),(3,.pointer (some ⟨mb,0,none⟩)),(4,.int .i64 n),(5,.slice (some ⟨tb,0,none⟩) n n),(6,.int .i64 0)] a0)
  (he:MSt w ex mb bb tb (.slice sa sl sc) l n rows m w1) (hF:1≤n∧n≤9) (hd:∀ k∈m.bks,k.phis=[]∧k.ins=[])
  (hQ:∀ a1 w2 (bks:List Zr),Fr [(2,.pointer (some ⟨r,0,none⟩)),(3,.pointer (some ⟨mb,0,none⟩)),(4,.int .i64 n),(5,.slice (some ⟨tb,0,none⟩) n n)] a1→MSt w ex mb bb tb (.slice sa sl sc) l n rows { m with bks:=bks } w2→Ye rows n bks→(∀ k∈bks,k.phis=[]∧k.ins=[])→Q0 .normal a1 w2):Code.wp Tryz.prog (mkCode [1,1,1,1,1,1,1,0,1]) Q0 a0 w1:=by
 obtain⟨u,hg,hu⟩:=Zq hw;obtain⟨g1,g2,s2,s3,s4,s5,s6,g3⟩:=hw;have e2:=hu 2 _ s2;have e3:=hu 3 _ s3;have e4:=hu 4 _ s4;have e5:=hu 5 _ s5;have e6:=hu 6 _ s6;rw[e2,e3,e4,e5,e6]at hg;subst hg;clear hu g1 g2 g3 e2 s2 e3 s3 e4 s4 e5 s5 e6 s6
 conv=>arg 2;whnf
 have HQ:=hid hQ;have hz:=hid hd;clear hQ hd;go_wp2_with fail
 refine ZO (fun t ac wr=>∃ (b:Nat) (bks:List Zr),t=n-b∧b≤n∧Fr [(2,.pointer (some ⟨r,0,none⟩)),(3,.pointer (some ⟨mb,0,none⟩)),(4,.int .i64 n),(5,.slice (some ⟨tb,0,none⟩) n n),(6,.int .i64 b)] ac∧MSt w ex mb bb tb (.slice sa sl sc) l n rows { m with bks:=bks } wr∧Ye rows b bks∧∀ k∈bks,k.phis=[]∧k.ins=[]) n ⟨0,m.bks,rfl,Nat.zero_le _,(Zu rfl rfl (Za rfl (Za rfl (Za rfl (Za rfl (Za rfl (Zh _))))))),he,(fun j k r hj _ _=>by omega),hz.out⟩ ?_
 ·clear he hz;intro t a1 wr K hJ hK;have hE:=hid hK;clear hK;obtain⟨b,bks,rfl,hL,hf,he,hm,hd⟩:=hJ;obtain⟨u,hg,hu⟩:=Zq hf;obtain⟨g1,g2,s2,s3,s4,s5,s6,g3⟩:=hf;have e2:=hu 2 _ s2;have e3:=hu 3 _ s3;have e4:=hu 4 _ s4;have e5:=hu 5 _ s5;have e6:=hu 6 _ s6;rw[e2,e3,e4,e5,e6]at hg;subst hg;clear hu g1 g2 g3 e2 s2 e3 s3 e4 s4 e5 s5 e6 s6;have ha:=hid he;have hp:=hid hm;have hi:=hid hd;clear he hm hd;by_cases hv:b<n
  ·obtain⟨k,hk⟩:=ha.out.at hv;obtain⟨⟨rv,rl⟩,hr,ho,ht⟩:=ha.out.row hv;obtain⟨ra,rc,hn⟩:=Zb (ha.out.tgt.row _ ho).1;dsimp only at hn;obtain⟨rn,hq⟩:∃ z,rl.length=z:=⟨_,rfl⟩
   rw[hq]at hn;subst hn;have HK:=hid hk;have HR:=hid (And.intro hr ho);have hD:=hid ht;have hy:=hid (ha.out.tgt.box.lt);clear hk hr ho ht hq;go_wp2_with fail
   refine Zg 10 rfl kK kK kK kS
    [Is (.pointer (some ⟨mb,0,none⟩)),Is (.pointer (some ⟨mb,0,none⟩)),Is (.pointer (some ⟨mb,2,none⟩)),Is (.pointer (some ⟨mb,3,none⟩)),Is (.slice (some ⟨bb,0,none⟩) n n),Is (.int .i64 b),Is (.slice (some ⟨tb,0,none⟩) n n),Is (.int .i64 b),Is (.pointer (some ⟨tb,b,none⟩)),Is (.slice ra rn rc)]
    jT ⟨?_,?_,?_,?_,?_,?_,?_,?_,?_,?_,trivial⟩ ?_
   rotate_right
   ·intro vs w1 hs hk;simp only[List.take,List.drop,putAll,Act.put,Zc,Ze,Is,List.setIfInBounds_toArray,List.set_cons_zero,List.set_cons_succ,Nat.reduceAdd]at hk ⊢;try simp only[hk]
    have hb:=hid (ha.out.keep hs);have hI:=hb.out.cell HK.out (show 4<6 by decide);have hG:=hb.out.blkAt.lt;have hH:=hb.out.blkAt.frozen (b*6+4);clear hs hk;go_wp2
    have hh:=hb.out.ok.setTo HK.out rfl (.slice ra rn rc) rl (hb.out.tgt.row _ HR.out.2);have hA:=hid (hb.out.step hh.1 hh.2 kU);clear hh;exact hE.out (n-(b+1)) _ _ kT ⟨b+1,_,rfl,kT,(Zu rfl rfl (Za rfl (Za rfl (Za rfl (Za rfl (Za rfl (Zh _))))))),hA.out,hp.out.next (fun r hr=>by have h:=HR.out.1;rw[hr]at h;rw[Option.some.inj h]),fun k2 hC=>by
     rcases Yc hC with rfl|⟨j,_,hj⟩
     ·exact hi.out k (List.mem_of_getElem? HK.out)
     ·exact hi.out k2 (List.mem_of_getElem? hj)⟩
   all_goals
    intro vs w1 hs hk _;simp only[List.take,putAll,Act.put,Zk,Ze,Is,List.setIfInBounds_toArray,List.set_cons_zero,List.set_cons_succ,Nat.reduceAdd]at hk ⊢;try simp only[hk]
   ·exact jK
   ·have hB:=(ha.out.keep hs).box.lt;exact jK
   iterate 2
    ·exact jK
   ·have hx:=(ha.out.keep hs).box;have hM:=hx.cell 3;have hB:=hx.lt;exact jK
   iterate 4
    ·exact jK
   ·have hc:=(hs.cell (p:=⟨tb,b,none⟩) hy.out).trans hD.out;have hl:=Nat.lt_of_lt_of_le hy.out hs.size;exact jK
  ·obtain rfl:n=b:=kT
   go_wp2_with fail
   exact HQ.out _ _ bks (Zu rfl rfl (Za rfl (Za rfl (Za rfl (Za rfl (Zh _)))))) ha.out hp.out hi.out
theorem QZ (w:World) (sa:Option Addr) (sl sc:Nat) (l:List Int) (rows:List (Value × List Int)) (m:MkSt) (r mb bb n tb pb b v A:Nat) (ph:List Int) (x:Int) (a0:Act) (w1:World) (Q0:Exit→Act→World→Prop) (h2:Fr [(2,.pointer (some ⟨r,0,none⟩)),(3,.pointer (some ⟨mb,0,none⟩)),(4,.int .i64 n),(5,.slice (some ⟨tb,0,none⟩) n n),(7,.slice (some ⟨pb,0,none⟩) n n),(8,.int .i64 b),(10,.int .i64 0)] a0)
  (hm:MSt w (exP r pb ph) mb bb tb (.slice sa sl sc) l n rows m w1) (Hw:1≤n∧n≤9) (hN:b<n) (hT:ph[b]? = some (v:Int)) (Hu:v≤3) (Ht:x≤100) (hi:Ye rows n m.bks) (hn:PhI ph n b 0 m) (hx:Hd x A (3*b+0) m)
  (hQ:∀ a1 w2 (m:MkSt),Fr [(2,.pointer (some ⟨r,0,none⟩)),(3,.pointer (some ⟨mb,0,none⟩)),(4,.int .i64 n),(5,.slice (some ⟨tb,0,none⟩) n n),(7,.slice (some ⟨pb,0,none⟩) n n),(8,.int .i64 b)] a1→MSt w (exP r pb ph) mb bb tb (.slice sa sl sc) l n rows m w2→Ye rows n m.bks→PhI ph n n 0 m→Hd x A (3*b+3) m→Q0 .normal a1 w2):Code.wp Tryz.prog (mkCode [1,1,1,1,1,1,1,1,1,0,1,0,0,1,0,0,1,1,1]) Q0 a0 w1:=by
 obtain⟨u,hy,hu⟩:=Zq h2;obtain⟨g1,g2,s2,s3,s4,s5,s7,s8,s10,g3⟩:=h2;have e2:=hu 2 _ s2;have e3:=hu 3 _ s3;have e4:=hu 4 _ s4;have e5:=hu 5 _ s5;have e7:=hu 7 _ s7;have e8:=hu 8 _ s8;have e10:=hu 10 _ s10;rw[e2,e3,e4,e5,e7,e8,e10]at hy;subst hy;clear hu g1 g2 g3 e2 s2 e3 s3 e4 s4 e5 s5 e7 s7 e8 s8 e10 s10
 conv=>arg 2;whnf
 have HQ:=hid hQ;have h3:=hid hT;clear hQ hT;go_wp2_with fail
 refine ZO (fun t ac wr=>∃ (i2:Nat) (m:MkSt),t=v-i2∧i2≤v∧Fr [(2,.pointer (some ⟨r,0,none⟩)),(3,.pointer (some ⟨mb,0,none⟩)),(4,.int .i64 n),(5,.slice (some ⟨tb,0,none⟩) n n),(7,.slice (some ⟨pb,0,none⟩) n n),(8,.int .i64 b),(10,.int .i64 i2)] ac∧MSt w (exP r pb ph) mb bb tb (.slice sa sl sc) l n rows m wr∧Ye rows n m.bks∧PhI ph n b i2 m∧Hd x A (3*b+i2) m) v ⟨0,m,rfl,Nat.zero_le _,(Zu rfl rfl (Za rfl (Za rfl (Za rfl (Za rfl (Za rfl (Za rfl (Za rfl (Zh _))))))))),hm,hi,hn,hx⟩ ?_
 ·clear hm hi hn hx m;intro t a1 wr K hJ hK;have Hp:=hid hK;clear hK;obtain⟨i2,m,rfl,Hy,hf,hm,hi,hn,hx⟩:=hJ;obtain⟨u,hy,hu⟩:=Zq hf;obtain⟨g1,g2,s2,s3,s4,s5,s7,s8,s10,g3⟩:=hf;have e2:=hu 2 _ s2;have e3:=hu 3 _ s3;have e4:=hu 4 _ s4;have e5:=hu 5 _ s5;have e7:=hu 7 _ s7;have e8:=hu 8 _ s8;have e10:=hu 10 _ s10;rw[e2,e3,e4,e5,e7,e8,e10]at hy;subst hy;clear hu g1 g2 g3 e2 s2 e3 s3 e4 s4 e5 s5 e7 s7 e8 s8 e10 s10;have hb:=hid hm;have hD:=hid hi;have hp:=hid hn;have hd:=hid hx;have hE:=hm.phAt.cell b;have Hj:=hm.phAt.lt;rw[List.getElem?_toArray,List.getElem?_map,h3.out]at hE
  replace hE:wr.cell? ⟨pb,b,none⟩=some (.int .i64 (v:Int)):=hE
  clear hm hi hn hx;by_cases Hr:i2<v
  ·obtain⟨k,hk⟩:=hb.out.at hN;have HK:=hid hk;have hw:=hb.out.ok.each k (List.mem_of_getElem? hk);obtain⟨fa,fc,hG⟩:=Zf (show wr.ownsRow _ _ _ _ _ _ from hw.phis);rw[hp.out.cur k hk]at hG;have hs:=hid hG;have hP:=hb.out.box;have hI:Zai (CE (exP r pb ph)) mb (.slice (some ⟨bb,0,none⟩) n n) (.slice sa sl sc) l wr m bb 0 wr.drew:=⟨fun _=>⟨hb.out.ok.keep ((Since.refl _).drew),(Since.refl _).drew⟩,fun e=>(by cases e),fun e=>absurd rfl e,hP.cell 3,hP.lt,hb.out.blkAt,fun q hq=>hb.out.ok.ltOwnC hq⟩
   have Hc:=hid hI;have hO:=hb.out.cell hk (show 0<6 by decide);rw[show (fbcells k)[0]? = some k.phv from rfl,hG,Nat.add_zero]at hO
   have h6:=hid hO;have hZ:0≤m.next∧m.next≤100000:=⟨hb.out.ok.next0,by have:=hd.out.next;omega⟩;have h4:=hid hZ;have Hs:i2≤3:=kT
   clear hk hw hG hP hI hO hZ;go_wp2_with fail
   clear hE Hj;refine J5 20 19 [16,19] [0,0,0,0,0,0,0,0,0,0,0,0,0,0,0,0,0,1,1,1] [2,2,2,2,2,2,1,1,1,1,1,1,1,1,1,0,0,1,1,1] [0,0,0,0,0,0,0,0,0,0,0,0,0,0,0,0,1,0,0,1] (fun q=>q=mb∨(Value.slice fa i2 fc).ownBlock=some q) (fun q=>q=mb) (fun q e=>.inl e) (Zai (CE (exP r pb ph)) mb (.slice (some ⟨bb,0,none⟩) n n) (.slice sa sl sc) l wr m bb) rfl kK kK kK kS kK
    [Is (.pointer (some ⟨mb,0,none⟩)),Is (.pointer (some ⟨mb,0,none⟩)),Is (.pointer (some ⟨mb,2,none⟩)),Is (.pointer (some ⟨mb,3,none⟩)),Is (.slice (some ⟨bb,0,none⟩) n n),Is (.int .i64 b),Is (.pointer (some ⟨mb,0,none⟩)),Is (.pointer (some ⟨mb,0,none⟩)),Is (.pointer (some ⟨mb,2,none⟩)),Is (.pointer (some ⟨mb,3,none⟩)),Is (.slice (some ⟨bb,0,none⟩) n n),Is (.int .i64 b),Is (.pointer (some ⟨bb,b*6,none⟩)),Is (.pointer (some ⟨bb,b*6,none⟩)),Is (.slice fa i2 fc),Is (.pointer (some ⟨mb,0,none⟩)),Is (.int .i64 m.next),Is (.agg #[.int .i64 m.next,.slice none 0 0]),XW (fun q=>q=mb∨(Value.slice fa i2 fc).ownBlock=some q) m.next,KP (CE (exP r pb ph)) mb (.slice (some ⟨bb,0,none⟩) n n) (.slice sa sl sc) l wr m (.slice fa i2 fc) (k.phis++[⟨m.next,[],.slice none 0 0⟩])]
    (by repeat (first | exact trivial | refine⟨fun h=>absurd rfl h,?_⟩ | refine⟨fun _=>Is.stableT _ _,?_⟩ | refine⟨fun _=>Any.stableT _,?_⟩ | refine⟨fun _=>XW.stableT _ _,?_⟩)) (by repeat (first | exact trivial | refine⟨Is.stableT _ _,?_⟩ | refine⟨Any.stableT _,?_⟩ | refine⟨XW.stableT2 _,?_⟩ | refine⟨KP.stableT _ _ _ _ _ _ _ _ _,?_⟩)) Hc.out ⟨?_,?_,?_,?_,?_,?_,?_,?_,?_,?_,?_,?_,?_,?_,?_,?_,?_,?_,?_,?_,trivial⟩ ?_
   rotate_right
   ·intro vs w5 ht ha hk;simp only[List.take,List.drop,putAll,Act.put,Zc,Ze,Is,List.setIfInBounds_toArray,List.set_cons_zero,List.set_cons_succ,Nat.reduceAdd]at hk ⊢;try simp only[hk]
    obtain⟨wa,hB,hM,hH,hL,hA,_⟩:KP (CE (exP r pb ph)) mb (.slice (some ⟨bb,0,none⟩) n n) (.slice sa sl sc) l wr m (.slice fa i2 fc) (k.phis++[⟨m.next,[],.slice none 0 0⟩]) (vs 19) w5:=by exact hk.2.2.2.2.2.2.2.2.2.2.2.2.2.2.2.2.2.2.2.1
    have hU:=QO hH hB.made (ha.three kS);clear hH;generalize vs 19=nv at *;have HC:w5.cell? ⟨bb,b*6,none⟩=some (.slice fa i2 fc):=(ha.blk.cell (b*6)).trans ((hb.out.blkAt.cell (b*6)).symm.trans h6.out);have HB:=ha.blk.frozen (b*6);have HA:=ha.blk.lt;have Hf:=hid hB;have Hh:=hid hM;have Hl:=hid hU;have Hg:=hid hL;have He:=hid hA;obtain⟨na,nc,h0⟩:=Zf (show w5.ownsRow _ _ _ _ _ _ from hA);rw[show (k.phis++[(⟨m.next,[],.slice none 0 0⟩:YY)]).length=i2+1 from by rw[List.length_append,hp.out.cur k HK.out];rfl]at h0
    subst h0;clear hk ha ht hB hM hU hL hA;go_wp2
    have hC:=Hf.out.addPhi (bb:=bb) (k:=k) (b:=b) HK.out rfl He.out (by rw[hs.out];exact Hl.out) (by rw[hs.out];exact Hg.out) ⟨.inl ⟨none,rfl,rfl⟩,Stays.nil _ _⟩;have Hi:=hid (hb.out.step hC.1 (Hh.out.s.trans hC.2) kU);clear hC;exact Hp.out (v-(i2+1)) _ _ kT ⟨i2+1,_,rfl,kT,(Zu rfl rfl (Za rfl (Za rfl (Za rfl (Za rfl (Za rfl (Za rfl (Za rfl (Zh _))))))))),Hi.out,hD.out.set (fun r hr=>hD.out b k r hN HK.out hr),hp.out.add HK.out rfl ⟨⟨h4.out.1,by show m.next<m.next+1;omega⟩,rfl⟩ rfl rfl,⟨hd.out.at_,by have:=hd.out.next;show m.next+1≤_;omega,hd.out.params,hd.out.live,fun c hc=>by
     rcases Yc hc with rfl|⟨j,_,hj⟩
     ·exact hd.out.ins k (List.mem_of_getElem? HK.out)
     ·exact hd.out.ins c (List.mem_of_getElem? hj)⟩⟩
   all_goals
    intro p vs w5 Hx Hz ht ha hk;simp only[List.take,putAll,Act.put,Zk,Ze,Is,List.setIfInBounds_toArray,List.set_cons_zero,List.set_cons_succ,Nat.reduceAdd]at hk ⊢;try simp only[hk]
   iterate 2
    ·exact jy
    ·have hl:=ha.lmb;exact jy
    iterate 2
     ·exact jy
    ·have hc:=ha.c3;have hl:=ha.lmb;exact jy
    ·exact jy
   ·have HD:b<n:=hN;exact jy
   ·exact jy
   ·have hc:=(ha.blk.cell (b*6)).trans ((hb.out.blkAt.cell (b*6)).symm.trans h6.out);have hl:=ha.blk.lt;exact jy
   ·exact jy
   ·obtain⟨hv,hW⟩:=ha.one kT;have hh:=hid hv;have Hm:=hid hW;have hg:=hid ha;clear hv hW ha ht;go_wp2_with fail
    refine (Vi hh.out h4.out).mono ?_;rintro e w6 ⟨rfl,ho,h8,hV⟩;go_wp2
    exact⟨_,rfl,rfl,hV,⟨fun e=>kT,fun _=>⟨ho,Mv.since Hm.out h8⟩,fun _=>ho.made,(show HeapIs w6 mb _ _ from ho.made).cell 3,(show HeapIs w6 mb _ _ from ho.made).lt,ho.bbAt rfl,fun q hq=>Nat.lt_of_lt_of_le (hg.out.lt q hq) hV.size⟩⟩
   ·exact jy
   ·have Hq:=ha.lt;go_wp2
    refine⟨_,rfl,ZaZ _ (fun e=>?_),(Turn.refl _ _).alloc _,ha.keep ((Since.refl _).alloc _)⟩;rcases e with e|e
    ·have:=ha.lmb;omega
    ·have h9:=ha.lt w5.heap.size (.inl (.inr (.inr (.inr ⟨k,List.mem_of_getElem? HK.out,.inr (by rw[hs.out];exact e)⟩))));omega
   ·obtain⟨Ha,⟨oq,hY,hX,Hv⟩,Hk⟩:=hk;obtain⟨hv,h1⟩:=ha.two kT;rw[hY];have hh:=hid hv;have Ho:=hid h1;have Hn:=hid hX;have hg:=hid ha;clear Ha Hk hY hX hv h1 ht ha;have hw:=hh.out.each k (List.mem_of_getElem? HK.out);have hz:=hw.phis;rw[hs.out]at hz;have Hb:=hid hz;have hR:=hid (hp.out.cur k HK.out);have h7:=hid (hg.out.three kT);have h5:=zH (¬ (Value.slice fa i2 fc).ownBlock=some mb) (fun e=>hh.out.mb_phis (List.mem_of_getElem? HK.out) (by rw[hs.out];exact e))
    clear hw hz;go_wp2_with (refine ZL (base:=0) fpcells 2 Xi kS rfl _ _ 133 rfl 138 (.agg #[.int .i64 0,.slice none 0 0]) 32 Tryz.underlying133 kO rfl (.slice fa i2 fc) k.phis ⟨m.next,[],.slice none 0 0⟩ oq 1 138 rfl rfl Hb.out Hn.out (by intro u hu;simp only[fpcells,List.mem_cons,List.not_mem_nil,or_false]at hu;rcases hu with rfl | rfl<;>rfl) (by rw[hR.out];unfold maxLen;omega) (by rw[hR.out];omega) (Nat.zero_le _) ?_;intro v' w' hF he hS)
    exact⟨_,rfl,⟨w5,hh.out,Ho.out,he.mono (fun q _ e=>.inl e),hS,hF,fun q hq e=>Zm hF (h7.out.turn he h5.out) kS (e ▸ hq)⟩,he.mono (fun q _ e=>.inr e),⟨fun e=>kT,fun e=>kT,fun _=>h7.out.turn he h5.out,(he.cell (p:=⟨mb,3,none⟩) hg.out.lmb (fun e=>hh.out.mb_phis (List.mem_of_getElem? HK.out) (by rw[hs.out];exact e))).trans hg.out.c3,Nat.lt_of_lt_of_le hg.out.lmb he.size,hg.out.blk.turn he (fun e=>Zm (hh.out.each k (List.mem_of_getElem? HK.out)).phis (hh.out.bbAt rfl) kS (by rw[hs.out];exact e)),fun q hq=>Nat.lt_of_lt_of_le (hg.out.lt q hq) he.size⟩⟩
  ·obtain rfl:v=i2:=kT
   go_wp2_with fail
   exact HQ.out _ _ m (Zu rfl rfl (Za rfl (Za rfl (Za rfl (Za rfl (Za rfl (Za rfl (Zh _)))))))) hb.out hD.out (hp.out.leave hb.out.len h3.out) (hd.out.more (Nat.le_refl _) kT)
theorem ZdF (w:World) (sa:Option Addr) (sl sc:Nat) (l:List Int) (rows:List (Value × List Int)) (m:MkSt) (r mb bb n tb pb:Nat) (ph:List Int) (x:Int) (a0:Act) (w1:World) (Q0:Exit→Act→World→Prop) (hT:Fr [(2,.pointer (some ⟨r,0,none⟩)),(3,.pointer (some ⟨mb,0,none⟩)),(4,.int .i64 n),(5,.slice (some ⟨tb,0,none⟩) n n),(7,.slice (some ⟨pb,0,none⟩) n n),(8,.int .i64 (1:Nat))] a0)
  (hx:MSt w (exP r pb ph) mb bb tb (.slice sa sl sc) l n rows m w1) (hG:1≤n∧n≤9) (h4:x≤100) (hm:Ye rows n m.bks) (hn:PhI ph n n 0 m) (hz:∀ (j:Nat) (v:Int),1≤j→ph[j]? = some v→v=0) (hB:Hd x (102+2*1) (3*1) m)
  (hQ:∀ a1 w2 (ph:List Int) (m:MkSt),Fr [(2,.pointer (some ⟨r,0,none⟩)),(3,.pointer (some ⟨mb,0,none⟩)),(4,.int .i64 n),(5,.slice (some ⟨tb,0,none⟩) n n),(7,.slice (some ⟨pb,0,none⟩) n n)] a1→MSt w (exP r pb ph) mb bb tb (.slice sa sl sc) l n rows m w2→Ye rows n m.bks→PhI ph n n 0 m→Hd x (102+2*n) (3*n) m→Q0 .normal a1 w2):Code.wp Tryz.prog (mkCode [1,1,1,1,1,1,1,1,1,0,1]) Q0 a0 w1:=by
 obtain⟨u,hb,hu⟩:=Zq hT;obtain⟨g1,g2,s2,s3,s4,s5,s7,s8,g3⟩:=hT;have e2:=hu 2 _ s2;have e3:=hu 3 _ s3;have e4:=hu 4 _ s4;have e5:=hu 5 _ s5;have e7:=hu 7 _ s7;have e8:=hu 8 _ s8;rw[e2,e3,e4,e5,e7,e8]at hb;subst hb;clear hu g1 g2 g3 e2 s2 e3 s3 e4 s4 e5 s5 e7 s7 e8 s8
 conv=>arg 2;whnf
 have HQ:=hid hQ;clear hQ;go_wp2_with fail
 refine ZO (fun t ac wr=>∃ (b:Nat) (ph:List Int) (m:MkSt),t=n-b∧(1≤b∧b≤n)∧Fr [(2,.pointer (some ⟨r,0,none⟩)),(3,.pointer (some ⟨mb,0,none⟩)),(4,.int .i64 n),(5,.slice (some ⟨tb,0,none⟩) n n),(7,.slice (some ⟨pb,0,none⟩) n n),(8,.int .i64 b)] ac∧MSt w (exP r pb ph) mb bb tb (.slice sa sl sc) l n rows m wr∧Ye rows n m.bks∧PhI ph n n 0 m∧(∀ (j:Nat) (v:Int),b≤j→ph[j]? = some v→v=0)∧Hd x (102+2*b) (3*b) m) (n-1) ⟨1,ph,m,rfl,⟨Nat.le_refl _,hG.1⟩,(Zu rfl rfl (Za rfl (Za rfl (Za rfl (Za rfl (Za rfl (Za rfl (Zh _)))))))),hx,hm,hn,hz,hB⟩ ?_
 ·clear hx hm hn hz hB m ph;intro t a1 wr K hJ hK;have hN:=hid hK;clear hK;obtain⟨b,ph,m,rfl,⟨hM,h6⟩,hf,hx,hm,hn,hz,hB⟩:=hJ;obtain⟨u,hb,hu⟩:=Zq hf;obtain⟨g1,g2,s2,s3,s4,s5,s7,s8,g3⟩:=hf;have e2:=hu 2 _ s2;have e3:=hu 3 _ s3;have e4:=hu 4 _ s4;have e5:=hu 5 _ s5;have e7:=hu 7 _ s7;have e8:=hu 8 _ s8;rw[e2,e3,e4,e5,e7,e8]at hb;subst hb;clear hu g1 g2 g3 e2 s2 e3 s3 e4 s4 e5 s5 e7 s7 e8 s8;have hl:=hid hx;have ht:=hid hm;have hi:=hid hn;have HZ:=hid hz;have hC:=hid hB;clear hx hm hn hz hB;by_cases hk:b<n
  ·have hH:=hl.out.box;have hZ:=hH.cell 2;have hY:=hH.cell 3;have hX:=hH.lt;have hS:=Qh m.params m.bks (.slice (some ⟨bb,0,none⟩) n n) wr hl.out.fn.tos (by rw[hl.out.len];omega) b;have hU:=hid hS;clear hH hS;go_wp2_with fail
   refine hU.out.mono ?_;rintro e w9 ⟨pv,ps,rfl,hE,hP,hV⟩;obtain⟨pa,pc,hR⟩:=Zf hE;obtain⟨pl,hF⟩:∃ z,ps.length=z:=⟨_,rfl⟩
   rw[hF]at hR;subst hR;have hw:=hid (hl.out.keep hP);have h0:ph[b]? = some 0:=by
    obtain⟨v,hv,_⟩:=hi.out.at hk;rw[hv,HZ.out b v (Nat.le_refl _) hv]
   have H0:=hid h0;clear hE hP hV hF h0 hZ hY hX hl hU;by_cases h5:1<pl
   ·go_wp2_with fail
    refine (ZB hw.out.ok 4 kS (by have:=hC.out.at_;omega)).mono ?_;rintro e wa ⟨ma,⟨y,rfl,⟨hD,hL⟩,hA⟩,hy,mva⟩;obtain⟨yn,rfl⟩:=Int.eq_ofNat_of_zero_le hD;have hh:=hid (hw.out.mv hy mva);have ha:=hid hA;have ho:=hh.out.phAt.cell b;rw[List.getElem?_toArray,List.getElem?_map,H0.out]at ho
    replace ho:wa.cell? ⟨pb,b,none⟩=some (.int .i64 0):=ho
    have hF:=hh.out.phAt.lt;have hW:=hh.out.phAt.frozen b;have hI:=zH (Hd x (102+2*b+1) (3*b+0) ma) (hC.out.step (a':=1) (k':=0) kP kP (by rw[ha.out];exact Nat.le_refl _) (by rw[ha.out];simp) kP);have h1:yn≤3:=kT
    clear hy mva hA hD hL;go_upto_block 4 with fail
    refine QZ w sa sl sc l rows ma r mb bb n tb pb b yn (102+2*b+1) (ph.set b yn) x _ _ _ (Zu rfl rfl (Za rfl (Za rfl (Za rfl (Za rfl (Za rfl (Za rfl (Za rfl (Zh _))))))))) (hh.out.setP b yn) hG hk (List.getElem?_set_self (by rw[hi.out.len];exact hk)) kT kT (by rw[ha.out];exact ht.out) (hi.out.enter kP (by rw[ha.out];exact Int.le_refl _) hk hM H0.out kT) hI.out ?_;exact zq
   ·have h2:¬ (1:Int)<(pl:Int):=kT
    go_wp2_with fail
    refine (ZB hw.out.ok 6 kS (by have:=hC.out.at_;omega)).mono ?_;rintro e wa ⟨ma,⟨y,rfl,⟨hD,hL⟩,hA⟩,hy,mva⟩;have hh:=hid (hw.out.mv hy mva);have ha:=hid hA;have hI:=zH (Hd x (102+2*b+1) (3*b+0) ma) (hC.out.step (a':=1) (k':=0) kP kP (by rw[ha.out];exact Nat.le_refl _) (by rw[ha.out];simp) kP);clear hy mva hA;by_cases hO:y=0
    ·subst hO;have ho:=hh.out.phAt.cell b;rw[List.getElem?_toArray,List.getElem?_map,H0.out]at ho
     replace ho:wa.cell? ⟨pb,b,none⟩=some (.int .i64 0):=ho
     have hF:=hh.out.phAt.lt;have hW:=hh.out.phAt.frozen b;clear hD hL;go_upto_block 4 with fail
     refine QZ w sa sl sc l rows ma r mb bb n tb pb b 1 (102+2*b+1) (ph.set b 1) x _ _ _ (Zu rfl rfl (Za rfl (Za rfl (Za rfl (Za rfl (Za rfl (Za rfl (Za rfl (Zh _))))))))) (hh.out.setP b 1) hG hk (List.getElem?_set_self (by rw[hi.out.len];exact hk)) kT kT (by rw[ha.out];exact ht.out) (hi.out.enter kP (by rw[ha.out];exact Int.le_refl _) hk hM H0.out kT) hI.out ?_;exact zq
    ·have h3:(y==0)=false:=by simpa using hO
     go_upto_block 4 with fail
     refine QZ w sa sl sc l rows ma r mb bb n tb pb b 0 (102+2*b+1) ph x _ _ _ (Zu rfl rfl (Za rfl (Za rfl (Za rfl (Za rfl (Za rfl (Za rfl (Za rfl (Zh _))))))))) hh.out hG hk H0.out kT kT (by rw[ha.out];exact ht.out) (hi.out.enter0 kP (by rw[ha.out];exact Int.le_refl _) hk hM H0.out) hI.out ?_;intro a1 w3 m3 hf hd hc he hg;obtain⟨u,hb,hu⟩:=Zq hf;obtain⟨g1,g2,s2,s3,s4,s5,s7,s8,g3⟩:=hf;have e2:=hu 2 _ s2;have e3:=hu 3 _ s3;have e4:=hu 4 _ s4;have e5:=hu 5 _ s5;have e7:=hu 7 _ s7;have e8:=hu 8 _ s8;rw[e2,e3,e4,e5,e7,e8]at hb;subst hb;clear hu g1 g2 g3 e2 s2 e3 s3 e4 s4 e5 s5 e7 s7 e8 s8;have hq:=hid hd;have hp:=hid hc;have hr:=hid he;have hs:=hid hg;clear hd hc he hg;go_wp2_with fail
     exact hN.out (n-(b+1)) _ _ kT ⟨b+1,_,m3,rfl,⟨kT,kT⟩,(Zu rfl rfl (Za rfl (Za rfl (Za rfl (Za rfl (Za rfl (Za rfl (Zh _)))))))),hq.out,hp.out,hr.out,(fun j v hj hv=>HZ.out j v kT hv),hs.out.more kT kT⟩
  ·obtain rfl:n=b:=kT
   go_wp2_with fail
   exact HQ.out _ _ ph m (Zu rfl rfl (Za rfl (Za rfl (Za rfl (Za rfl (Za rfl (Zh _))))))) hl.out ht.out hi.out hC.out
end Go.Proofs.YtimpddecdodddaaGreat
