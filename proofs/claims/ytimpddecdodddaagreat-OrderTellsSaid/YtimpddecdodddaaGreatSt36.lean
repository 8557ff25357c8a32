import Derived.Test.YtimpddecdodddaaGreatSt35
namespace Go.Proofs.YtimpddecdodddaaGreat
open Go.Proofs.Tryz Go.RowKit Go.Lib
set_option linter.unusedVariables false
set_option maxHeartbeats 16000000
set_option maxRecDepth 1000000
theorem zt {P:Prop} (h:P:=by
 intro a1 w3 m3 hf hd hc he hg;obtain⟨u,hb,hu⟩:=Zs hf;obtain⟨g1,g2,s2,s3,s4,s5,s7,s8,g3⟩:=hf;have e2:=hu 2 _ s2;have e3:=hu 3 _ s3;have e4:=hu 4 _ s4;have e5:=hu 5 _ s5;have e7:=hu 7 _ s7;have e8:=hu 8 _ s8;rw[e2,e3,e4,e5,e7,e8]at hb;subst hb;clear hu g1 g2 g3 e2 s2 e3 s3 e4 s4 e5 s5 e7 s7 e8 s8;have hq:=hid hd;have hp:=hid hc;have hr:=hid he;have hs:=hid hg;clear hd hc he hg;go_wp2_with fail
 exact hN.out (n-(b+1)) _ _ (by omega) ⟨b+1,_,m3,rfl,⟨by omega,by omega⟩,(ZA rfl rfl zf0),hq.out,hp.out,hr.out,(fun j v hj hv=>HZ.out j v (by omega) (by rw[List.getElem?_set_ne (by omega)]at hv;exact hv)),hs.out.more (by omega) (by omega)⟩):P:=h
theorem zaG {P:Prop} (h:P:=by rw[ha.out]):P:=h
theorem ZaF (w:World) (sa:Option Addr) (sl sc:Nat) (l:List Int) (rows:List (Value × List Int)) (m:Zm) (r mb bb n tb pb b v A:Nat) (ph:List Int) (x:Int) (a0:Act) (w1:World) (Q0:Exit→Act→World→Prop) (h2:Fr [(2,.pointer (some ⟨r,0,none⟩)),(3,.pointer (some ⟨mb,0,none⟩)),(4,.int .i64 n),(5,.slice (some ⟨tb,0,none⟩) n n),(7,.slice (some ⟨pb,0,none⟩) n n),(8,.int .i64 b),(10,.int .i64 0)] a0)
  (hm:MSt w (exP r pb ph) mb bb tb (.slice sa sl sc) l n rows m w1) (Hw:1≤n∧n≤9) (hN:b<n) (hT:ph[b]? = some (v:Int)) (Hu:v≤3) (Ht:x≤100) (hi:Yn rows n m.bks) (hn:PhI ph n b 0 m) (hx:Hd x A (3*b+0) m)
  (hQ:∀ a1 w2 (m:Zm),Fr [(2,.pointer (some ⟨r,0,none⟩)),(3,.pointer (some ⟨mb,0,none⟩)),(4,.int .i64 n),(5,.slice (some ⟨tb,0,none⟩) n n),(7,.slice (some ⟨pb,0,none⟩) n n),(8,.int .i64 b)] a1→MSt w (exP r pb ph) mb bb tb (.slice sa sl sc) l n rows m w2→Yn rows n m.bks→PhI ph n n 0 m→Hd x A (3*b+3) m→Q0 .normal a1 w2):Code.wp prog (mkCode [1,1,1,1,1,1,1,1,1,0,1,0,0,1,0,0,1,1,1]) Q0 a0 w1:=by
 obtain⟨u,hy,hu⟩:=Zs h2;obtain⟨g1,g2,s2,s3,s4,s5,s7,s8,s10,g3⟩:=h2;have e2:=hu 2 _ s2;have e3:=hu 3 _ s3;have e4:=hu 4 _ s4;have e5:=hu 5 _ s5;have e7:=hu 7 _ s7;have e8:=hu 8 _ s8;have e10:=hu 10 _ s10;rw[e2,e3,e4,e5,e7,e8,e10]at hy;subst hy;clear hu g1 g2 g3 e2 s2 e3 s3 e4 s4 e5 s5 e7 s7 e8 s8 e10 s10
 conv=>arg 2;whnf
 have HQ:=hid hQ;have h3:=hid hT;clear hQ hT;go_wp2_with fail
 refine ZS (fun t ac wr=>∃ (i2:Nat) (m:Zm),t=v-i2∧i2≤v∧Fr [(2,.pointer (some ⟨r,0,none⟩)),(3,.pointer (some ⟨mb,0,none⟩)),(4,.int .i64 n),(5,.slice (some ⟨tb,0,none⟩) n n),(7,.slice (some ⟨pb,0,none⟩) n n),(8,.int .i64 b),(10,.int .i64 i2)] ac∧MSt w (exP r pb ph) mb bb tb (.slice sa sl sc) l n rows m wr∧Yn rows n m.bks∧PhI ph n b i2 m∧Hd x A (3*b+i2) m) v ⟨0,m,rfl,Nat.zero_le _,(ZA rfl rfl zf0),hm,hi,hn,hx⟩ ?_
 ·clear hm hi hn hx m;intro t a1 wr K hJ hK;have Hp:=hid hK;clear hK;obtain⟨i2,m,rfl,Hy,hf,hm,hi,hn,hx⟩:=hJ;obtain⟨u,hy,hu⟩:=Zs hf;obtain⟨g1,g2,s2,s3,s4,s5,s7,s8,s10,g3⟩:=hf;have e2:=hu 2 _ s2;have e3:=hu 3 _ s3;have e4:=hu 4 _ s4;have e5:=hu 5 _ s5;have e7:=hu 7 _ s7;have e8:=hu 8 _ s8;have e10:=hu 10 _ s10;rw[e2,e3,e4,e5,e7,e8,e10]at hy;subst hy;clear hu g1 g2 g3 e2 s2 e3 s3 e4 s4 e5 s5 e7 s7 e8 s8 e10 s10;have hb:=hid hm;have hD:=hid hi;have hp:=hid hn;have hd:=hid hx;have hE:=hm.phAt.cell b;have Hj:=hm.phAt.lt;rw[List.getElem?_toArray,List.getElem?_map,h3.out]at hE
  replace hE:wr.cell? ⟨pb,b,none⟩=some (.int .i64 (v:Int)):=hE
  clear hm hi hn hx;by_cases Hr:i2<v
  ·obtain⟨k,hk⟩:=hb.out.at hN;have HK:=hid hk;have hw:=hb.out.ok.each k (List.mem_of_getElem? hk);obtain⟨fa,fc,hG⟩:=Ze (show wr.ownsRow _ _ _ _ _ _ from hw.phis);rw[hp.out.cur k hk]at hG;have hs:=hid hG;have hP:=hb.out.box;have hI:Za2 (CE (exP r pb ph)) mb (.slice (some ⟨bb,0,none⟩) n n) (.slice sa sl sc) l wr m bb 0 wr.drew:=⟨fun _=>⟨hb.out.ok.keep ((Since.refl _).drew),(Since.refl _).drew⟩,fun e=>(by cases e),fun e=>absurd rfl e,hP.cell 3,hP.lt,hb.out.blkAt,fun q hq=>hb.out.ok.ltOwnC hq⟩
   have Hc:=hid hI;have hO:=hb.out.cell hk (show 0<6 by decide);rw[show (fbcells k)[0]? = some k.phv from rfl,hG,Nat.add_zero]at hO
   have h6:=hid hO;have hZ:0≤m.next∧m.next≤100000:=⟨hb.out.ok.next0,by have:=hd.out.next;omega⟩;have h4:=hid hZ;have Hs:i2≤3:=zaK
   clear hk hw hG hP hI hO hZ;go_wp2_with fail
   clear hE Hj;refine Kp 20 19 [16,19] [0,0,0,0,0,0,0,0,0,0,0,0,0,0,0,0,0,1,1,1] [2,2,2,2,2,2,1,1,1,1,1,1,1,1,1,0,0,1,1,1] [0,0,0,0,0,0,0,0,0,0,0,0,0,0,0,0,1,0,0,1] (fun q=>q=mb∨(Value.slice fa i2 fc).ownBlock=some q) (fun q=>q=mb) (fun q e=>.inl e) (Za2 (CE (exP r pb ph)) mb (.slice (some ⟨bb,0,none⟩) n n) (.slice sa sl sc) l wr m bb) rfl zaC zaC zaC zaJ zaC
    [Is (.pointer (some ⟨mb,0,none⟩)),Is (.pointer (some ⟨mb,0,none⟩)),Is (.pointer (some ⟨mb,2,none⟩)),Is (.pointer (some ⟨mb,3,none⟩)),Is (.slice (some ⟨bb,0,none⟩) n n),Is (.int .i64 b),Is (.pointer (some ⟨mb,0,none⟩)),Is (.pointer (some ⟨mb,0,none⟩)),Is (.pointer (some ⟨mb,2,none⟩)),Is (.pointer (some ⟨mb,3,none⟩)),Is (.slice (some ⟨bb,0,none⟩) n n),Is (.int .i64 b),Is (.pointer (some ⟨bb,b*6,none⟩)),Is (.pointer (some ⟨bb,b*6,none⟩)),Is (.slice fa i2 fc),Is (.pointer (some ⟨mb,0,none⟩)),Is (.int .i64 m.next),Is (.agg #[.int .i64 m.next,.slice none 0 0]),Wa (fun q=>q=mb∨(Value.slice fa i2 fc).ownBlock=some q) m.next,Ql (CE (exP r pb ph)) mb (.slice (some ⟨bb,0,none⟩) n n) (.slice sa sl sc) l wr m (.slice fa i2 fc) (k.phis++[⟨m.next,[],.slice none 0 0⟩])]
    (by repeat (first | exact trivial | refine⟨fun h=>absurd rfl h,?_⟩ | refine⟨fun _=>Is.stableT _ _,?_⟩ | refine⟨fun _=>Any.stableT _,?_⟩ | refine⟨fun _=>Wa.stableT _ _,?_⟩)) (by repeat (first | exact trivial | refine⟨Is.stableT _ _,?_⟩ | refine⟨Any.stableT _,?_⟩ | refine⟨Wa.stableT2 _,?_⟩ | refine⟨Ql.stableT _ _ _ _ _ _ _ _ _,?_⟩)) Hc.out ⟨?_,?_,?_,?_,?_,?_,?_,?_,?_,?_,?_,?_,?_,?_,?_,?_,?_,?_,?_,?_,trivial⟩ ?_
   rotate_right
   ·intro vs w5 ht ha hk;revert hk;refine zs0 ?_;intro hk
    obtain⟨wa,hB,hM,hH,hL,hA,_⟩:Ql (CE (exP r pb ph)) mb (.slice (some ⟨bb,0,none⟩) n n) (.slice sa sl sc) l wr m (.slice fa i2 fc) (k.phis++[⟨m.next,[],.slice none 0 0⟩]) (vs 19) w5:=by exact hk.2.2.2.2.2.2.2.2.2.2.2.2.2.2.2.2.2.2.2.1
    have hU:=Zao hH hB.made (ha.three zaJ);clear hH;generalize vs 19=nv at *;have HC:w5.cell? ⟨bb,b*6,none⟩=some (.slice fa i2 fc):=(ha.blk.cell (b*6)).trans ((hb.out.blkAt.cell (b*6)).symm.trans h6.out);have HB:=ha.blk.frozen (b*6);have HA:=ha.blk.lt;have Hf:=hid hB;have Hh:=hid hM;have Hl:=hid hU;have Hg:=hid hL;have He:=hid hA;obtain⟨na,nc,h0⟩:=Ze (show w5.ownsRow _ _ _ _ _ _ from hA);rw[show (k.phis++[(⟨m.next,[],.slice none 0 0⟩:YW)]).length=i2+1 from by rw[List.length_append,hp.out.cur k HK.out];rfl]at h0
    subst h0;clear hk ha ht hB hM hU hL hA;go_wp2
    have hC:=Hf.out.addPhi (bb:=bb) (k:=k) (b:=b) HK.out rfl He.out (by rw[hs.out];exact Hl.out) (by rw[hs.out];exact Hg.out) ⟨.inl ⟨none,rfl,rfl⟩,Stays.nil _ _⟩;have Hi:=hid (hb.out.step hC.1 (Hh.out.s.trans hC.2) zaL);clear hC;exact Hp.out (v-(i2+1)) _ _ zaK ⟨i2+1,_,rfl,zaK,(ZA rfl rfl zf0),Hi.out,hD.out.set (fun r hr=>hD.out b k r hN HK.out hr),hp.out.add HK.out rfl ⟨⟨h4.out.1,by show m.next<m.next+1;omega⟩,rfl⟩ rfl rfl,⟨hd.out.at_,by have:=hd.out.next;show m.next+1≤_;omega,hd.out.params,hd.out.live,fun c hc=>by
     rcases Yk hc with rfl|⟨j,_,hj⟩
     ·exact hd.out.ins k (List.mem_of_getElem? HK.out)
     ·exact hd.out.ins c (List.mem_of_getElem? hj)⟩⟩
   all_goals
    intro p vs w5 Hx Hz ht ha hk;revert hk;refine zs1 ?_;intro hk
   iterate 2
    ·exact kz
    ·have hl:=ha.lmb;exact kz
    iterate 2
     ·exact kz
    ·have hc:=ha.c3;have hl:=ha.lmb;exact kz
    ·exact kz
   ·have HD:b<n:=hN;exact kz
   ·exact kz
   ·have hc:=(ha.blk.cell (b*6)).trans ((hb.out.blkAt.cell (b*6)).symm.trans h6.out);have hl:=ha.blk.lt;exact kz
   ·exact kz
   ·obtain⟨hv,hW⟩:=ha.one zaK;have hh:=hid hv;have Hm:=hid hW;have hg:=hid ha;clear hv hW ha ht;go_wp2_with fail
    refine (Vo hh.out h4.out).mono ?_;rintro e w6 ⟨rfl,ho,h8,hV⟩;go_wp2
    exact⟨_,rfl,rfl,hV,⟨fun e=>zaK,fun _=>⟨ho,Mv.since Hm.out h8⟩,fun _=>ho.made,(show HeapIs w6 mb _ _ from ho.made).cell 3,(show HeapIs w6 mb _ _ from ho.made).lt,ho.bbAt rfl,fun q hq=>Nat.lt_of_lt_of_le (hg.out.lt q hq) hV.size⟩⟩
   ·exact kz
   ·have Hq:=ha.lt;go_wp2
    refine⟨_,rfl,ZbU _ (fun e=>?_),(Zb.refl _ _).alloc _,ha.keep ((Since.refl _).alloc _)⟩;rcases e with e|e
    ·have:=ha.lmb;omega
    ·have h9:=ha.lt w5.heap.size (.inl (.inr (.inr (.inr ⟨k,List.mem_of_getElem? HK.out,.inr (by rw[hs.out];exact e)⟩))));omega
   ·obtain⟨Ha,⟨oq,hY,hX,Hv⟩,Hk⟩:=hk;obtain⟨hv,h1⟩:=ha.two zaK;rw[hY];have hh:=hid hv;have Ho:=hid h1;have Hn:=hid hX;have hg:=hid ha;clear Ha Hk hY hX hv h1 ht ha;have hw:=hh.out.each k (List.mem_of_getElem? HK.out);have hz:=hw.phis;rw[hs.out]at hz;have Hb:=hid hz;have hR:=hid (hp.out.cur k HK.out);have h7:=hid (hg.out.three zaK);have h5:=zH (¬ (Value.slice fa i2 fc).ownBlock=some mb) (fun e=>hh.out.mb_phis (List.mem_of_getElem? HK.out) (by rw[hs.out];exact e))
    clear hw hz;go_wp2_with (refine ZC (base:=0) fpcells 2 Xm zaJ rfl _ _ 133 rfl 138 (.agg #[.int .i64 0,.slice none 0 0]) 32 underlying133 zaF rfl (.slice fa i2 fc) k.phis ⟨m.next,[],.slice none 0 0⟩ oq 1 138 rfl rfl Hb.out Hn.out (by intro u hu;simp only[fpcells,List.mem_cons,List.not_mem_nil,or_false]at hu;rcases hu with rfl | rfl<;>rfl) (by rw[hR.out];unfold maxLen;omega) (by rw[hR.out];omega) (Nat.zero_le _) ?_;intro v' w' hF he hS)
    exact⟨_,rfl,⟨w5,hh.out,Ho.out,he.mono (fun q _ e=>.inl e),hS,hF,fun q hq e=>Zn hF (h7.out.turn he h5.out) zaJ (e ▸ hq)⟩,he.mono (fun q _ e=>.inr e),⟨fun e=>zaK,fun e=>zaK,fun _=>h7.out.turn he h5.out,(he.cell (p:=⟨mb,3,none⟩) hg.out.lmb (fun e=>hh.out.mb_phis (List.mem_of_getElem? HK.out) (by rw[hs.out];exact e))).trans hg.out.c3,Nat.lt_of_lt_of_le hg.out.lmb he.size,hg.out.blk.turn he (fun e=>Zn (hh.out.each k (List.mem_of_getElem? HK.out)).phis (hh.out.bbAt rfl) zaJ (by rw[hs.out];exact e)),fun q hq=>Nat.lt_of_lt_of_le (hg.out.lt q hq) he.size⟩⟩
  ·obtain rfl:v=i2:=zaK
   go_wp2_with fail
   exact HQ.out _ _ m (ZA rfl rfl zf0) hb.out hD.out (hp.out.leave hb.out.len h3.out) (hd.out.more (Nat.le_refl _) zaK)
theorem Zes (w:World) (sa:Option Addr) (sl sc:Nat) (l:List Int) (rows:List (Value × List Int)) (m:Zm) (r mb bb n tb pb:Nat) (ph:List Int) (x:Int) (a0:Act) (w1:World) (Q0:Exit→Act→World→Prop) (hT:Fr [(2,.pointer (some ⟨r,0,none⟩)),(3,.pointer (some ⟨mb,0,none⟩)),(4,.int .i64 n),(5,.slice (some ⟨tb,0,none⟩) n n),(7,.slice (some ⟨pb,0,none⟩) n n),(8,.int .i64 (1:Nat))] a0)
  (hx:MSt w (exP r pb ph) mb bb tb (.slice sa sl sc) l n rows m w1) (hG:1≤n∧n≤9) (h4:x≤100) (hm:Yn rows n m.bks) (hn:PhI ph n n 0 m) (hz:∀ (j:Nat) (v:Int),1≤j→ph[j]? = some v→v=0) (hB:Hd x (102+2*1) (3*1) m)
  (hQ:∀ a1 w2 (ph:List Int) (m:Zm),Fr [(2,.pointer (some ⟨r,0,none⟩)),(3,.pointer (some ⟨mb,0,none⟩)),(4,.int .i64 n),(5,.slice (some ⟨tb,0,none⟩) n n),(7,.slice (some ⟨pb,0,none⟩) n n)] a1→MSt w (exP r pb ph) mb bb tb (.slice sa sl sc) l n rows m w2→Yn rows n m.bks→PhI ph n n 0 m→Hd x (102+2*n) (3*n) m→Q0 .normal a1 w2):Code.wp prog (mkCode [1,1,1,1,1,1,1,1,1,0,1]) Q0 a0 w1:=by
 obtain⟨u,hb,hu⟩:=Zs hT;obtain⟨g1,g2,s2,s3,s4,s5,s7,s8,g3⟩:=hT;have e2:=hu 2 _ s2;have e3:=hu 3 _ s3;have e4:=hu 4 _ s4;have e5:=hu 5 _ s5;have e7:=hu 7 _ s7;have e8:=hu 8 _ s8;rw[e2,e3,e4,e5,e7,e8]at hb;subst hb;clear hu g1 g2 g3 e2 s2 e3 s3 e4 s4 e5 s5 e7 s7 e8 s8
 conv=>arg 2;whnf
 have HQ:=hid hQ;clear hQ;go_wp2_with fail
 refine ZS (fun t ac wr=>∃ (b:Nat) (ph:List Int) (m:Zm),t=n-b∧(1≤b∧b≤n)∧Fr [(2,.pointer (some ⟨r,0,none⟩)),(3,.pointer (some ⟨mb,0,none⟩)),(4,.int .i64 n),(5,.slice (some ⟨tb,0,none⟩) n n),(7,.slice (some ⟨pb,0,none⟩) n n),(8,.int .i64 b)] ac∧MSt w (exP r pb ph) mb bb tb (.slice sa sl sc) l n rows m wr∧Yn rows n m.bks∧PhI ph n n 0 m∧(∀ (j:Nat) (v:Int),b≤j→ph[j]? = some v→v=0)∧Hd x (102+2*b) (3*b) m) (n-1) ⟨1,ph,m,rfl,⟨Nat.le_refl _,hG.1⟩,(ZA rfl rfl zf0),hx,hm,hn,hz,hB⟩ ?_
 ·clear hx hm hn hz hB m ph;intro t a1 wr K hJ hK;have hN:=hid hK;clear hK;obtain⟨b,ph,m,rfl,⟨hM,h6⟩,hf,hx,hm,hn,hz,hB⟩:=hJ;obtain⟨u,hb,hu⟩:=Zs hf;obtain⟨g1,g2,s2,s3,s4,s5,s7,s8,g3⟩:=hf;have e2:=hu 2 _ s2;have e3:=hu 3 _ s3;have e4:=hu 4 _ s4;have e5:=hu 5 _ s5;have e7:=hu 7 _ s7;have e8:=hu 8 _ s8;rw[e2,e3,e4,e5,e7,e8]at hb;subst hb;clear hu g1 g2 g3 e2 s2 e3 s3 e4 s4 e5 s5 e7 s7 e8 s8;have hl:=hid hx;have ht:=hid hm;have hi:=hid hn;have HZ:=hid hz;have hC:=hid hB;clear hx hm hn hz hB;by_cases hk:b<n
  ·have hH:=hl.out.box;have hZ:=hH.cell 2;have hY:=hH.cell 3;have hX:=hH.lt;have hS:=QK m.params m.bks (.slice (some ⟨bb,0,none⟩) n n) wr hl.out.fn.tos (by rw[hl.out.len];omega) b;have hU:=hid hS;clear hH hS;go_wp2_with fail
   refine hU.out.mono ?_;rintro e w9 ⟨pv,ps,rfl,hE,hP,hV⟩;obtain⟨pa,pc,hR⟩:=Ze hE;obtain⟨pl,hF⟩:∃ z,ps.length=z:=⟨_,rfl⟩
   rw[hF]at hR;subst hR;have hw:=hid (hl.out.keep hP);have h0:ph[b]? = some 0:=by
    obtain⟨v,hv,_⟩:=hi.out.at hk;rw[hv,HZ.out b v (Nat.le_refl _) hv]
   have H0:=hid h0;clear hE hP hV hF h0 hZ hY hX hl hU;by_cases h5:1<pl
   ·go_wp2_with fail
    refine (ZF hw.out.ok 4 zaJ (by have:=hC.out.at_;omega)).mono ?_;rintro e wa ⟨ma,⟨y,rfl,⟨hD,hL⟩,hA⟩,hy,mva⟩;obtain⟨yn,rfl⟩:=Int.eq_ofNat_of_zero_le hD;have hh:=hid (hw.out.mv hy mva);have ha:=hid hA;have ho:=hh.out.phAt.cell b;rw[List.getElem?_toArray,List.getElem?_map,H0.out]at ho
    replace ho:wa.cell? ⟨pb,b,none⟩=some (.int .i64 0):=ho
    have hF:=hh.out.phAt.lt;have hW:=hh.out.phAt.frozen b;have hI:=zH (Hd x (102+2*b+1) (3*b+0) ma) (hC.out.step (a':=1) (k':=0) zaG zaG (by rw[ha.out];exact Nat.le_refl _) (by rw[ha.out];simp) zaG);have h1:yn≤3:=zaK
    clear hy mva hA hD hL;go_upto_block 4 with fail
    refine ZaF w sa sl sc l rows ma r mb bb n tb pb b yn (102+2*b+1) (ph.set b yn) x _ _ _ (ZA rfl rfl zf0) (hh.out.setP b yn) hG hk (List.getElem?_set_self (by rw[hi.out.len];exact hk)) zaK zaK (by rw[ha.out];exact ht.out) (hi.out.enter zaG (by rw[ha.out];exact Int.le_refl _) hk hM H0.out zaK) hI.out ?_;exact zt
   ·have h2:¬ (1:Int)<(pl:Int):=zaK
    go_wp2_with fail
    refine (ZF hw.out.ok 6 zaJ (by have:=hC.out.at_;omega)).mono ?_;rintro e wa ⟨ma,⟨y,rfl,⟨hD,hL⟩,hA⟩,hy,mva⟩;have hh:=hid (hw.out.mv hy mva);have ha:=hid hA;have hI:=zH (Hd x (102+2*b+1) (3*b+0) ma) (hC.out.step (a':=1) (k':=0) zaG zaG (by rw[ha.out];exact Nat.le_refl _) (by rw[ha.out];simp) zaG);clear hy mva hA;by_cases hO:y=0
    ·subst hO;have ho:=hh.out.phAt.cell b;rw[List.getElem?_toArray,List.getElem?_map,H0.out]at ho
     replace ho:wa.cell? ⟨pb,b,none⟩=some (.int .i64 0):=ho
     have hF:=hh.out.phAt.lt;have hW:=hh.out.phAt.frozen b;clear hD hL;go_upto_block 4 with fail
     refine ZaF w sa sl sc l rows ma r mb bb n tb pb b 1 (102+2*b+1) (ph.set b 1) x _ _ _ (ZA rfl rfl zf0) (hh.out.setP b 1) hG hk (List.getElem?_set_self (by rw[hi.out.len];exact hk)) zaK zaK (by rw[ha.out];exact ht.out) (hi.out.enter zaG (by rw[ha.out];exact Int.le_refl _) hk hM H0.out zaK) hI.out ?_;exact zt
    ·have h3:(y==0)=false:=by simpa using hO
     go_upto_block 4 with fail
     refine ZaF w sa sl sc l rows ma r mb bb n tb pb b 0 (102+2*b+1) ph x _ _ _ (ZA rfl rfl zf0) hh.out hG hk H0.out zaK zaK (by rw[ha.out];exact ht.out) (hi.out.enter0 zaG (by rw[ha.out];exact Int.le_refl _) hk hM H0.out) hI.out ?_;intro a1 w3 m3 hf hd hc he hg;obtain⟨u,hb,hu⟩:=Zs hf;obtain⟨g1,g2,s2,s3,s4,s5,s7,s8,g3⟩:=hf;have e2:=hu 2 _ s2;have e3:=hu 3 _ s3;have e4:=hu 4 _ s4;have e5:=hu 5 _ s5;have e7:=hu 7 _ s7;have e8:=hu 8 _ s8;rw[e2,e3,e4,e5,e7,e8]at hb;subst hb;clear hu g1 g2 g3 e2 s2 e3 s3 e4 s4 e5 s5 e7 s7 e8 s8;have hq:=hid hd;have hp:=hid hc;have hr:=hid he;have hs:=hid hg;clear hd hc he hg;go_wp2_with fail
     exact hN.out (n-(b+1)) _ _ zaK ⟨b+1,_,m3,rfl,⟨zaK,zaK⟩,(ZA rfl rfl zf0),hq.out,hp.out,hr.out,(fun j v hj hv=>HZ.out j v zaK hv),hs.out.more zaK zaK⟩
  ·obtain rfl:n=b:=zaK
   go_wp2_with fail
   exact HQ.out _ _ ph m (ZA rfl rfl zf0) hl.out ht.out hi.out hC.out
structure MadeF (f:FnV):Prop where
 params:0≤f.params∧f.params≤4
 blocks:1≤f.blocks.length∧f.blocks.length≤9
 head:∀ k,f.blocks[0]? = some k→k.phis=[]
 phis:∀ k∈f.blocks,k.phis.length≤3∧∀ p∈k.phis,(0≤p.dst∧p.dst<700)∧p.ins.length≤9∧∀ y∈p.ins,(0≤y.1∧y.1<(f.blocks.length:Int))∧0≤y.2∧y.2<700
 ins:∀ k∈f.blocks,∀ x∈k.ins,Ye 700 x
 total:(f.blocks.map fun b=>b.ins.length).sum≤700
 terms:∀ k∈f.blocks,Y7 700 f.blocks.length k.term
def Zco (w:World) (f:FnV):Prop:=∀ k∈f.blocks,(∀ x∈k.ins,∀ q,x.av.ownBlock=some q→q<w.heap.size)∧(∀ q,k.term.argsv.ownBlock=some q→q<w.heap.size)∧∀ q,k.term.tov.ownBlock=some q→q<w.heap.size
theorem MadeF.of {x : Int} {ph:List Int} {n c:Nat} {m : Zm} {bv:Value} (h:Xo x ph n c m) (hl:m.bks.length=n) (hn:1≤n∧n≤9) (hc:c≤216) (hx:0≤x∧x≤4) (hg:Zdm m):MadeF ⟨m.params,m.bks,bv⟩:=by
 have ht:=h.total;have hb:=h.next;have hp:m.params=x:=h.params;refine⟨by show 0≤m.params∧m.params≤4;omega,by show 1≤m.bks.length∧m.bks.length≤9;omega,fun k hk=>?_,fun k hk=>⟨?_,fun p hp=>?_⟩,fun k hk y hy=>(hg.ins k hk y hy).mono zaK,?_,fun k hk=>?_⟩
 ·exact List.length_eq_zero_iff.1 (by have:=h.cnt 0 k 0 hk h.phs.2.2;omega)
 ·obtain⟨j,hj⟩:=List.getElem?_of_mem hk;have ha:=(List.getElem?_eq_some_iff.1 hj).1;obtain⟨v,hv⟩:∃ v,ph[j]? = some v:=⟨_,List.getElem?_eq_getElem (by rw[h.phs.1];replace ha:j<m.bks.length:=ha;omega)⟩
  have h1:=h.cnt j k v hj hv;have h2:=h.phs.2.1 v (List.mem_of_getElem? hv);omega
 ·have h1:=h.phi k hk p hp;rw[show (⟨m.params,m.bks,bv⟩:FnV).blocks.length=n from hl];exact h1
 ·show m.total≤700
  omega
 ·rw[show (⟨m.params,m.bks,bv⟩:FnV).blocks.length=n from hl];exact h.terms k hk
def Zfx (w:World) (f:FnV):Prop:=(∀ k∈f.blocks,OwnRow fpcells 2 138 0 w k.phv k.phis∧OwnRow Z6 5 180 0 w k.inv k.ins)∧∃ bb n,f.bv=.slice (some ⟨bb,0,none⟩) n n∧HeapIs w bb (f.blocks.flatMap fbcells).toArray 177
theorem ZdS (sv:Value) (l:List Int) (w:World) (hs:Zd w sv l) (H6:∀ q,sv.ownBlock=some q→q<w.heap.size) :
  Calls prog 81 #[sv] w (fun e w'=>∃ f:FnV,e=.returned (fv f)∧FnIn w' f∧MadeF f∧Since w w'∧Zco w' f∧Zfx w' f):=by
 obtain⟨sa,sc,hv⟩:=Zc hs;obtain⟨sl,HB⟩:∃ x,l.length=x:=⟨_,rfl⟩
 rw[HB]at hv;subst hv;have HS:=hid hs;have HR:=hid H6;clear hs HB;go_enter func81,ntmps81
 go_wp2_with fail
 obtain⟨mb,hV⟩:∃ x,x=w.heap.size+1:=⟨_,rfl⟩
 obtain⟨w1,hN⟩:∃ x,x=((w.alloc (.cells #[.int .i64 0,.slice none 0 0] 109)).alloc (.cells #[.slice sa sl sc,.int .i64 0,.int .i64 0,.slice none 0 0,.int .i64 0,.slice none 0 0] 111)):=⟨_,rfl⟩
 have HV:=zH (HeapIs w1 w.heap.size #[.int .i64 0,.slice none 0 0] 109) (by rw[hN];exact (HeapIs.new _ _ _).keep ((Since.refl _).alloc _))
 have tc:=zH (Since w w1) (by rw[hN];exact ((Since.refl _).alloc _).alloc _)
 have H1:=hid (show MkOk (fun q=>q=w.heap.size) mb (.slice none 0 0) (.slice sa sl sc) l mk0 w1 from by
  have hz:(w.alloc (.cells #[.int .i64 0,.slice none 0 0] 109)).heap.size=w.heap.size+1:=by simp
  have h:=Ze4 (C:=fun q=>q=w.heap.size) (w:=w.alloc (.cells #[.int .i64 0,.slice none 0 0] 109)) (HS.out.keep ((Since.refl _).alloc _)) (fun q hq=>by have:=HR.out q hq;omega) (fun q hq=>⟨zaK,fun e=>by have:=HR.out q e;omega⟩) (HeapIs.new _ #[.slice sa sl sc,.int .i64 0,.int .i64 0,.slice none 0 0,.int .i64 0,.slice none 0 0] _);rw[hz]at h;rw[hN,hV];exact h)
 rw[←hN,←hV];have hD:=hid hV;clear hN hV;refine (ZF H1.out 5 zaJ zaJ).mono ?_;rintro e w2 ⟨m2,⟨x,rfl,⟨h7,H5⟩,hX⟩,h2,mv2⟩;have hm:HeapIs w2 mb #[.slice sa sl sc,.int .i64 m2.at_,.int .i64 m2.params,.slice none 0 0,.int .i64 m2.next,m2.livev] 111:=h2.made;have HG:HeapIs ((w2.setCell ⟨mb,2,none⟩ (.int .i64 x)).setCell ⟨mb,4,none⟩ (.int .i64 x)) mb #[.slice sa sl sc,.int .i64 m2.at_,.int .i64 x,.slice none 0 0,.int .i64 x,m2.livev] 111:=(hm.set 2 (.int .i64 x)).set 4 (.int .i64 x);have t3:Zb (fun q=>q=mb) w2 ((w2.setCell ⟨mb,2,none⟩ (.int .i64 x)).setCell ⟨mb,4,none⟩ (.int .i64 x)):=((Zb.refl (fun q=>q=mb) w2).setCell (p:=⟨mb,2,none⟩) rfl _).setCell (p:=⟨mb,4,none⟩) rfl _;have H3:=hid (h2.setHead (p:=x) (next':=x) HG t3 (by rw[hX];exact h7) ⟨h7,zaK,Int.le_refl _⟩);have tr:=hm.cell 2;have tq:=hm.cell 4;have tm:=hm.lt;have tp:=hm.frozen;have HQ:m2.at_=1:=by rw[hX];rfl
 have Hm:m2.bks=[]∧m2.livev=.slice none 0 0∧m2.live=[]:=by rw[hX];exact⟨rfl,rfl,rfl⟩
 have hI:=hid (And.intro HQ Hm);have Ho:=zH (Since w ((w2.setCell ⟨mb,2,none⟩ (.int .i64 x)).setCell ⟨mb,4,none⟩ (.int .i64 x))) (t3.toSince (mv2.turn.toSince tc.out fun k hk e=>by have h2:=Qp e;have:=hD.out;omega) fun k hk e=>by have:=hD.out;omega)
 have Hr:=hid ((HV.out.turn mv2.turn (fun ho=>(H1.out.aside w.heap.size rfl).2 ho)).turn t3 (by have:=hD.out;omega))
 clear hm HG t3 hX h2 mv2 HQ Hm;go_wp2_with fail
 obtain⟨w3,Hy⟩:∃ y,y=((w2.setCell ⟨mb,2,none⟩ (.int .i64 x)).setCell ⟨mb,4,none⟩ (.int .i64 x)):=⟨_,rfl⟩
 rw[←Hy]at H3 Hr Ho ⊢;clear Hy;refine (ZF H3.out 9 zaJ (by show m2.at_≤_;have:=hI.out.1;omega)).mono ?_;rintro e w4 ⟨m4,⟨y,rfl,⟨H0,HZ⟩,hW⟩,h4,mv4⟩;have HP:m4.at_=2:=by rw[hW];show m2.at_+1=2;rw[hI.out.1]
 have HO:m4.bks=[]:=by rw[hW];exact hI.out.2.1
 have hU:m4.next=x∧m4.params=x∧m4.livev=.slice none 0 0∧m4.live=[]:=by rw[hW];exact⟨rfl,rfl,hI.out.2.2.1,hI.out.2.2.2⟩
 have H4:=hid h4;have Hn:=zH (Since w w4) (mv4.turn.toSince Ho.out fun k hk e=>by have h2:=Kh (m:={ m2 with params:=x,next:=x }) hI.out.2.2.1 hI.out.2.1 e;have:=hD.out;omega)
 have Hq:=hid (Hr.out.turn mv4.turn (fun ho=>(H3.out.aside w.heap.size rfl).2 ho))
 have hw:=zH (m4.at_=2∧m4.bks=[]∧(m4.next=x∧m4.params=x)∧m4.livev=.slice none 0 0∧m4.live=[]) ⟨HP,HO,⟨hU.1,hU.2.1⟩,hU.2.2⟩;have h5:=zH (w.heap.size<w4.heap.size) (by have:=Hq.out.lt;exact this);clear h4 mv4 hW HP HO hU H3 Hr H1 HV;go_wp2_with fail
 obtain⟨n,hn⟩:∃ n:Nat,1+y=(n:Int):=⟨(1+y).toNat,zaK⟩
 have hE:1≤n∧n≤9:=zaK
 rw[hn];clear hn H0 HZ;refine (ZbY H4.out (by have:=hw.out.1;omega) n hE).mono ?_;rintro e w5 ⟨tb,rows,m5,a,rfl,hT,ha,HN⟩;have HT:=hid hT;have tf:=hid HN;have HU:=zH (Since w w5) (HT.out.mv.turn.toSince Hn.out fun k hk e=>by have h2:=Kh hw.out.2.2.2.1 hw.out.2.1 e;have:=hD.out;omega);have Hp:=hid (Hq.out.turn hT.mv.turn (fun ho=>(H4.out.aside w.heap.size rfl).2 ho))
 clear hT HN H4 Hq;have Hi:(prog.info? 177).map (fun i=>(i.zero,i.size,i.bytes))=some (some (.agg #[.slice none 0 0,.slice none 0 0,.int .i64 0,.slice none 0 0,.slice none 0 0,.int .i32 0]),6,112):=by kernel_rfl
 obtain⟨ti,Hz,Hx,Hw,Hv⟩:=info_parts Hi;have TI:=hid (And.intro Hz (And.intro Hx (And.intro Hw Hv)));have Hg:HeapIs w5 mb #[.slice sa sl sc,.int .i64 m5.at_,.int .i64 m5.params,.slice none 0 0,.int .i64 m5.next,m5.livev] 111:=HT.out.ok.made;have hM:=hid Hg;clear Hi Hz Hx Hw Hv Hg;go_upto_block 0 with (refine wpList_make_full _ rfl (.tmp 55) (.tmp 55) 107 rfl w5.heap.size 177 ti (.agg #[.slice none 0 0,.slice none 0 0,.int .i64 0,.slice none 0 0,.slice none 0 0,.int .i32 0]) 6 underlying107 TI.out.1 TI.out.2.1 TI.out.2.2.1 .i64 .i64 _ _ n rfl rfl rfl rfl zak zaq (Nat.le_refl _) ?_;intro w6 hl hg;have hB:=XY rfl zaJ hl hg;have hd:=hid hB;have hK:=hM.out.keep hB.1;have ta:=hK.cell 3;have H8:=hK.lt;have H9:=hK.frozen;clear hK hB hl hg)
 obtain⟨w7,hR⟩:∃ y,y=w6.setCell ⟨mb,3,none⟩ (.slice (some ⟨w5.heap.size,0,none⟩) n n):=⟨_,rfl⟩
 have t7:Zb (fun q=>q=mb) w6 w7:=by rw[hR];exact (Zb.refl (fun q=>q=mb) w6).setCell (p:=⟨mb,3,none⟩) rfl _
 have Hf:HeapIs w7 mb #[.slice sa sl sc,.int .i64 m5.at_,.int .i64 m5.params,.slice (some ⟨w5.heap.size,0,none⟩) n n,.int .i64 m5.next,m5.livev] 111:=by rw[hR];exact (hM.out.keep hd.out.1).set 3 _
 have Hh:m5.bks=[]:=by
  have h1:=HT.out.mv.len;rw[hw.out.2.1]at h1;exact List.length_eq_zero_iff.1 h1
 have hZ:(List.replicate n fb0).flatMap fbcells=(List.replicate n (Value.agg #[.slice none 0 0,.slice none 0 0,.int .i64 0,.slice none 0 0,.slice none 0 0,.int .i32 0]).cells.toList).flatten:=by
  rw[List.flatMap_def,List.map_replicate];rfl
 have HF:¬ w5.heap.size=mb:=fun e=>by have:=hM.out.lt;omega
 have H7:=hid (MkOk.setBlocks (C:=fun q=>q=w.heap.size) (n:=n) (bb:=w5.heap.size) (HT.out.ok.swapC (C':=fun q=>q=w.heap.size) (T:=fun _=>False) (Zb.since (Since.refl _)) (fun q _ e=>e.elim) (fun q hq=>⟨.inl (.inl hq),by rw[hq];exact Hp.out.lt⟩)) Hh zaK (Nat.le_refl _) (by rw[hZ];exact hd.out.2.turn t7 HF) Hf ((Zb.since (S:=fun q=>q=mb) hd.out.1).trans t7));have hL:∀ q,CE [⟨w.heap.size,#[.int .i64 0,.slice none 0 0],109⟩] q→q=w.heap.size:=fun q hq=>by
  obtain⟨x,hx,H2⟩:=hq;rw[←H2,List.mem_singleton.1 hx]
 have hC:=hid (show MSt w [⟨w.heap.size,#[.int .i64 0,.slice none 0 0],109⟩] mb w5.heap.size tb (.slice sa sl sc) l n rows { m5 with bks:=List.replicate n fb0 } w7 from by
  have Hl:Own mb (.slice (some ⟨w5.heap.size,0,none⟩) n n) { m5 with bks:=List.replicate n fb0 }=fun q=>Own mb (.slice (some ⟨w5.heap.size,0,none⟩) n n) { m5 with bks:=List.replicate n fb0 } q:=rfl
  have hY:∀ q,Own mb (.slice none 0 0) m5 q→w.heap.size≤q:=fun q hq=>by
   rcases HT.out.mv.new q hq with h1|h1
   ·have h2:=Kh hw.out.2.2.2.1 hw.out.2.1 h1;have:=hD.out;omega
   ·have:=h5.out;omega
  have HY:∀ q,Own mb (.slice (some ⟨w5.heap.size,0,none⟩) n n) { m5 with bks:=List.replicate n fb0 } q→w.heap.size≤q:=by
   rintro q (hq|hq|hq|⟨b,hb,hq⟩)
   ·exact hY q (.inl hq)
   ·have hq:w5.heap.size=q:=Option.some.inj hq;rw[←hq];exact Nat.le_trans (Nat.le_of_lt h5.out) HT.out.mv.turn.size
   ·exact hY q (.inr (.inr (.inl hq)))
   ·rw[(List.mem_replicate.1 hb).2]at hq;rcases hq with hq|hq<;>cases hq
  have HC:HeapIs w7 w.heap.size #[.int .i64 0,.slice none 0 0] 109:=(Hp.out.keep hd.out.1).turn t7 (by have:=hD.out;omega);refine⟨H7.out.swapC (T:=fun _=>False) (Zb.refl _ _) (fun q _ e=>e.elim) (fun q hq=>⟨.inl (hL q hq),by rw[hL q hq];exact HC.lt⟩),fun x hx=>?_,?_,?_,HY,by simp,HT.out.len,HT.out.inr,HT.out.few⟩
  ·rw[List.mem_singleton.1 hx];exact⟨HC,Nat.le_refl _⟩
  ·have hS:∀ q,CR (fun q=>q=w.heap.size) tb rows q→¬ Own mb (.slice none 0 0) m5 q∧q<w5.heap.size:=fun q hq=>⟨(HT.out.ok.aside q hq).2,(HT.out.ok.aside q hq).1⟩
   have HE:∀ q,CR (fun q=>q=w.heap.size) tb rows q→w.heap.size<q→¬ ZE (CE [⟨w.heap.size,#[.int .i64 0,.slice none 0 0],109⟩]) mb (.slice (some ⟨w5.heap.size,0,none⟩) n n) { m5 with bks:=List.replicate n fb0 } q:=by
    rintro q hq HH ((hi|hi|hi|⟨b,hb,hi⟩)|hi)
    ·exact (hS q hq).1 (.inl hi)
    ·cases hi;exact absurd (hS _ hq).2 (Nat.lt_irrefl _)
    ·exact (hS q hq).1 (.inr (.inr (.inl hi)))
    ·rw[(List.mem_replicate.1 hb).2]at hi;rcases hi with hi|hi<;>cases hi
    ·rw[hL q hi]at HH;exact absurd HH (Nat.lt_irrefl _)
   have h4:=h5.out;have He:∀ q,CR (fun q=>q=w.heap.size) tb rows q→¬ q=mb:=fun q hq e=>(hS q hq).1 (.inl e)
   refine⟨(HT.out.box.keep hd.out.1).turn t7 (He tb (.inr (.inl rfl))),HE tb (.inr (.inl rfl)) (by have:=HT.out.low;omega),fun r hr=>?_⟩;have ho:=HT.out.own r hr;have HJ:=World.ownsRow.lt ho;refine⟨((ZB ho).keep hd.out.1).turn t7 fun q hq=>He q (.inr (.inr ⟨r,hr,hq⟩)),fun q hq=>⟨HE q (.inr (.inr ⟨r,hr,hq⟩)) ?_,?_⟩⟩
   ·have:=(HJ q hq).1;omega
   ·have h1:=(HJ q hq).2;have h2:=hd.out.1.size;have h3:=t7.size;omega
  ·exact t7.toSince ((HU.out).trans hd.out.1) fun k hk e=>by have:=hD.out;omega)
 have hO:=hid (show m5.at_≤102∧m5.next=x∧m5.params=x∧m5.live=[] from by
  have h1:=HT.out.mv.at_;have h2:=HT.out.mv.next;have h3:=HT.out.mv.live;rw[hw.out.1]at h1;rw[hw.out.2.2.1.1]at h2;rw[hw.out.2.2.2.2]at h3;refine⟨zaK,zaK,HT.out.mv.same.1.trans hw.out.2.2.1.2,List.length_eq_zero_iff.1 ?_⟩;simp only[List.length_nil]at h3;omega)
 rw[←hR];clear hL hd ta H8 H9 t7 Hf hZ HF hM H7 HU Hp HT h5 Hn hw TI Hh;obtain⟨bb,Hl⟩:∃ bb,bb=w5.heap.size:=⟨_,rfl⟩
 rw[←Hl]at hC ⊢;clear Hl hR;have HX:=hid (And.intro h7 H5);refine Ze3 w [bxR w.heap.size] sa sl sc l rows { m5 with bks:=List.replicate n fb0 } w.heap.size mb bb n tb _ _ _ (ZA rfl rfl zf0) hC.out hE (fun k hk=>by rw[(List.mem_replicate.1 hk).2];exact⟨rfl,rfl⟩) ?_;clear hC;intro a1 w8 bks hf he hA Hk;obtain⟨u,ht,hu⟩:=Zs hf;obtain⟨g1,g2,s2,s3,s4,s5,g3⟩:=hf;have e2:=hu 2 _ s2;have e3:=hu 3 _ s3;have e4:=hu 4 _ s4;have e5:=hu 5 _ s5;rw[e2,e3,e4,e5]at ht;subst ht;clear hu g1 g2 g3 e2 s2 e3 s3 e4 s4 e5 s5;have hG:=hid he;have hF:=hid hA;have hH:=hid Hk;obtain⟨t3,HA,z0,z1,z2⟩:=info_parts Tryz.info3;have TI3:=hid (And.intro HA (And.intro z0 (And.intro z1 z2)));clear he hA Hk HA z0 z1 z2;go_upto_block 2 with (refine wpList_make_full _ rfl (.tmp 78) (.tmp 78) 22 rfl _ 3 t3 (.int .i64 0) 1 underlying22 TI3.out.1 TI3.out.2.1 TI3.out.2.2.1 .i64 .i64 _ _ n rfl rfl rfl rfl (by rw[TI3.out.2.2.2];omega) zaq (Nat.le_refl _) ?_;intro w9 hl hg;have hB:=XY rfl zaJ hl hg;have hd:=hid hB;clear hl hg hB)
 have hQ:=zH (MSt w (exP w.heap.size w8.heap.size (List.replicate n 0)) mb bb tb (.slice sa sl sc) l n rows { m5 with bks:=bks } w9) (MSt.addP hG.out hd.out.1 (by have h:=hd.out.2;rw[show (List.replicate n (Value.int .i64 0).cells.toList).flatten=(List.replicate n (0:Int)).map (Value.int .i64) from by rw[List.map_replicate];exact XR n _]at h;exact h) (Nat.le_refl _))
 have Hs:=hid (show PhI (List.replicate n 0) n n 0 { m5 with bks:=bks } from by
  refine⟨by simp,fun v hv=>?_,by rw[List.getElem?_replicate,if_pos zaK],fun k hk p hp=>?_,fun j k v _ hk hv=>?_,fun k hk=>?_⟩
  ·rw[(List.mem_replicate.1 hv).2];omega
  ·rw[(hH.out k hk).1]at hp;cases hp
  ·rw[List.getElem?_replicate]at hv;split at hv
   ·rw[(hH.out k (List.mem_of_getElem? hk)).1];exact Option.some.inj hv
   ·cases hv
  ·rw[(hH.out k (List.mem_of_getElem? hk)).1];rfl)
 have Hu:=zH (Hd x 102 0 { m5 with bks:=bks }) ⟨hO.out.1,by have:=hO.out.2.1;show m5.next≤_;omega,hO.out.2.2.1,hO.out.2.2.2,fun k hk=>(hH.out k hk).2⟩;obtain⟨pb,HD⟩:∃ z,z=w8.heap.size:=⟨_,rfl⟩
 rw[←HD]at hQ ⊢;clear hd hG hH hO TI3 HD;refine Zes w sa sl sc l rows { m5 with bks:=bks } w.heap.size mb bb n tb pb (List.replicate n 0) x _ _ _ (ZA rfl rfl zf0) hQ.out hE (by have:=HX.out;omega) hF.out Hs.out (fun j v hj hv=>by
  rw[List.getElem?_replicate]at hv;split at hv
  ·exact (Option.some.inj hv).symm
  ·cases hv) (Hu.out.more zaK zaK) ?_
 clear hQ hF Hs Hu;intro a1 w2 ph m hf he hA Hc HK;obtain⟨u,ht,hu⟩:=Zs hf;obtain⟨g1,g2,s2,s3,s4,s5,s7,g3⟩:=hf;have e2:=hu 2 _ s2;have e3:=hu 3 _ s3;have e4:=hu 4 _ s4;have e5:=hu 5 _ s5;have e7:=hu 7 _ s7;rw[e2,e3,e4,e5,e7]at ht;subst ht;clear hu g1 g2 g3 e2 s2 e3 s3 e4 s4 e5 s5 e7 s7;have hG:=hid he;have hF:=hid hA;have Hj:(prog.info? 4).map (fun i=>(i.zero,i.size,i.bytes))=some (some (.bool false),1,1):=by kernel_rfl
 obtain⟨tbi,Hb,Ha,h9,h8⟩:=info_parts Hj;have TIB:=hid (And.intro Hb (And.intro Ha (And.intro h9 h8)));have Ht:=hid (Lp.start Hc HK zaK zaK);clear he hA Hc HK Hj Hb Ha h9 h8;go_upto_block 6 with (refine wpList_make_full _ rfl (.tmp 135) (.tmp 135) 144 rfl _ 4 tbi (.bool false) 1 underlying144 TIB.out.1 TIB.out.2.1 TIB.out.2.2.1 .i64 .i64 _ _ n rfl rfl rfl rfl (by rw[TIB.out.2.2.2];omega) zaq (Nat.le_refl _) ?_;intro w10 hl hg;have hB:=XY rfl zaJ hl hg;have hd:=hid hB;clear hl hg hB)
 have hP:=zH (MSt w (exD w.heap.size pb w2.heap.size ph (dnL n 0)) mb bb tb (.slice sa sl sc) l n rows m w10) (MSt.addD hG.out hd.out.1 (by have h:=hd.out.2;rw[show (List.replicate n (Value.bool false).cells.toList).flatten=(dnL n 0).map Value.bool from by rw[←Zd1,List.map_replicate];exact XR n _]at h;exact h) (Nat.le_refl _))
 obtain⟨db,HM⟩:∃ z,z=w2.heap.size:=⟨_,rfl⟩
 rw[←HM]at hP ⊢;clear hd hG TIB HM;refine ZdM w sa sl sc l rows m w.heap.size mb bb n tb pb db ph x _ _ _ (ZA rfl rfl zf0) hP.out hE tf.out hF.out Ht.out ?_;clear hP hF Ht m;intro a1 w2 m hf he hA HI;obtain⟨u,ht,hu⟩:=Zs hf;obtain⟨g1,g2,s2,s3,s4,s5,s7,s11,g3⟩:=hf;have e2:=hu 2 _ s2;have e3:=hu 3 _ s3;have e4:=hu 4 _ s4;have e5:=hu 5 _ s5;have e7:=hu 7 _ s7;have e11:=hu 11 _ s11;rw[e2,e3,e4,e5,e7,e11]at ht;subst ht;clear hu g1 g2 g3 e2 s2 e3 s3 e4 s4 e5 s5 e7 s7 e11 s11;have hC:=hid he;have h6:=hid (Xo.start HI he.len hE.2 (by have:=HX.out;omega));clear he hA HI;go_upto_block 24 with fail
 refine Zev w (exD w.heap.size pb db ph (dnL n n)) sa sl sc l rows m w.heap.size mb bb n tb pb ph x _ _ _ (ZA rfl rfl zf0) hC.out hE (fun z hz=>by
  simp only[exD,List.mem_cons,List.not_mem_nil,or_false]at hz;rcases hz with rfl|rfl|rfl
  ·show (109:TypeId)≠141;decide
  ·show (3:TypeId)≠141;decide
  ·show (4:TypeId)≠141;decide) zaH h6.out ?_
 clear hC h6 m;intro a1 w2 m c hf he HL hc;obtain⟨u,ht,hu⟩:=Zs hf;obtain⟨g1,g2,s2,s3,s4,s7,g3⟩:=hf;have e2:=hu 2 _ s2;have e3:=hu 3 _ s3;have e4:=hu 4 _ s4;have e7:=hu 7 _ s7;rw[e2,e3,e4,e7]at ht;subst ht;clear hu g1 g2 g3 e2 s2 e3 s3 e4 s4 e7 s7;have hC:=hid he;have h6:=hid HL;have h0:=he.box;have Hm:=h0.cell 2;have ts:=h0.cell 3;have tn:=h0.lt;have hJ:HeapIs w2 w.heap.size #[.int .i64 0,.slice none 0 0] 109:=(he.boxes (bxR w.heap.size) zaH).1;have tl:=hJ.cell 0;have tj:=hJ.cell 1;have tg:=hJ.lt;have th:=hJ.frozen;have td:=hid hJ;clear he HL h0 hJ;go_wp2_with fail
 have HW:=(td.out.set 0 (.int .i64 m.params)).set 1 (.slice (some ⟨bb,0,none⟩) n n);try simp only[Exit.inBlock,Exit.then]
 refine bodyPost_ret (results_cell_row rfl _ _ w.heap.size 109 #[.int .i64 m.params,.slice (some ⟨bb,0,none⟩) n n] (0,0) _ rfl HW underlying109 rfl zaF) rfl ?_;have t:Zb (fun q=>q=w.heap.size) w2 ((w2.setCell ⟨w.heap.size,0,none⟩ (.int .i64 m.params)).setCell ⟨w.heap.size,1,none⟩ (.slice (some ⟨bb,0,none⟩) n n)):=((Zb.refl (fun q=>q=w.heap.size) w2).setCell (p:=⟨w.heap.size,0,none⟩) rfl _).setCell (p:=⟨w.heap.size,1,none⟩) rfl _;have hh:=hC.out.beside (ex':=[]) t (fun q _ e=>⟨bxR w.heap.size,by simp[exD],e.symm⟩) (fun z hz=>by cases hz);exact⟨⟨m.params,m.bks,.slice (some ⟨bb,0,none⟩) n n⟩,rfl,hh.fn,MadeF.of h6.out hh.len hE hc (by have:=HX.out;omega) hh.ok.good,hh.old,fun k hk=>⟨fun y hy q hq=>((hh.ok.each k hk).arg y hy).2 q hq |>.2,fun q hq=>((hh.ok.each k hk).term.2.1 q hq).2,fun q hq=>((hh.ok.each k hk).term.2.2 q hq).2⟩,fun k hk=>⟨(hh.ok.each k hk).phis,(hh.ok.each k hk).ins⟩,bb,n,rfl,hh.blkAt⟩
theorem ZdR (sv:Value) (l:List Int) (w:World) (hs:Zd w sv l) (ha:∀ q,sv.ownBlock=some q→q<w.heap.size) :
  Calls prog 81 #[sv] w (fun e w'=>∃ f:FnV,e=.returned (fv f)∧FnIn w' f∧MadeF f∧Since w w'∧Zco w' f):=
 (ZdS sv l w hs ha).mono fun e w' ⟨f,h1,h2,h3,h4,h5,_⟩=>⟨f,h1,h2,h3,h4,h5⟩
end Go.Proofs.YtimpddecdodddaaGreat
