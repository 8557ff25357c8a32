import Derived.Test.YtmhojfpidedjeaaGreatDoorTp37
namespace Go.Proofs.YtmhojfpidedjeaaGreatDoor
open Go.RowKit Go.Lib
set_option linter.unusedVariables false
set_option maxHeartbeats 8000000
set_option maxRecDepth 1000000
theorem Zge (w:World) (sa:Option Addr) (sl sc:Nat) (l:List Int) (rows:List (Value × List Int)) (m:Zj) (r mb bb n tb pb db tn d:Nat) (ph:List Int) (x:Int) (a0:Act) (w1:World) (Q0:Exit→Act→World→Prop) (Hr:Fr [(2,.pointer (some ⟨r,0,none⟩)),(3,.pointer (some ⟨mb,0,none⟩)),(4,.int .i64 n),(5,.slice (some ⟨tb,0,none⟩) n n),(7,.slice (some ⟨pb,0,none⟩) n n),(11,.slice (some ⟨db,0,none⟩) n n),(12,.int .i64 tn),(13,.int .i64 0)] a0)
  (hi:MSt w (exD r pb db ph (dnL n d)) mb bb tb (.slice sa sl sc) l n rows m w1) (hH:1≤n∧n≤9) (Hs:XQ rows n) (hx:tn=0→d=0) (ht:tn≠0→d=n) (hj:Yh rows n m.bks) (hs:Lp x ph n d m)
  (hQ:∀ a1 w2 (d:Nat) (m:Zj),Fr [(2,.pointer (some ⟨r,0,none⟩)),(3,.pointer (some ⟨mb,0,none⟩)),(4,.int .i64 n),(5,.slice (some ⟨tb,0,none⟩) n n),(7,.slice (some ⟨pb,0,none⟩) n n),(11,.slice (some ⟨db,0,none⟩) n n),(12,.int .i64 tn)] a1→MSt w (exD r pb db ph (dnL n d)) mb bb tb (.slice sa sl sc) l n rows m w2→d=n→Yh rows n m.bks→Lp x ph n d m→Q0 .normal a1 w2):Code.wp Tryz.prog (mkCode [1,1,1,1,1,1,1,1,1,1,1,0,1,0,0,1,0,0,1]) Q0 a0 w1:=by
 obtain⟨u,ha,hu⟩:=Zr Hr;obtain⟨g1,g2,s2,s3,s4,s5,s7,s11,s12,s13,g3⟩:=Hr;have e2:=hu 2 _ s2;have e3:=hu 3 _ s3;have e4:=hu 4 _ s4;have e5:=hu 5 _ s5;have e7:=hu 7 _ s7;have e11:=hu 11 _ s11;have e12:=hu 12 _ s12;have e13:=hu 13 _ s13;rw[e2,e3,e4,e5,e7,e11,e12,e13]at ha;subst ha;clear hu g1 g2 g3 e2 s2 e3 s3 e4 s4 e5 s5 e7 s7 e11 s11 e12 s12 e13 s13
 conv=>arg 2;whnf
 have HQ:=hid hQ;have HL:=hid Hs;have Hj:=hid (And.intro hx ht);have hl:=hid hj;have hb:=hid hs;clear hQ Hs hx ht hj hs;go_wp2_with fail
 refine YC (fun t ac wr=>∃ (b d:Nat) (m:Zj),t=n-b∧b≤n∧(tn=0→d=b)∧(tn≠0→d=n)∧Fr [(2,.pointer (some ⟨r,0,none⟩)),(3,.pointer (some ⟨mb,0,none⟩)),(4,.int .i64 n),(5,.slice (some ⟨tb,0,none⟩) n n),(7,.slice (some ⟨pb,0,none⟩) n n),(11,.slice (some ⟨db,0,none⟩) n n),(12,.int .i64 tn),(13,.int .i64 b)] ac∧MSt w (exD r pb db ph (dnL n d)) mb bb tb (.slice sa sl sc) l n rows m wr∧Yh rows n m.bks∧Lp x ph n d m) n ⟨0,d,m,rfl,Nat.zero_le _,Hj.out.1,Hj.out.2,(Zv rfl rfl (Za rfl (Za rfl (Za rfl (Za rfl (Za rfl (Za rfl (Za rfl (Za rfl (Zo _)))))))))),hi,hl.out,hb.out⟩ ?_
 ·clear hi Hj hl hb d m;intro t a1 wr K hJ hK;have Hu:=hid hK;clear hK;obtain⟨b,d,m,rfl,HO,hx,ht,hf,hi,hj,hs⟩:=hJ;obtain⟨u,ha,hu⟩:=Zr hf;obtain⟨g1,g2,s2,s3,s4,s5,s7,s11,s12,s13,g3⟩:=hf;have e2:=hu 2 _ s2;have e3:=hu 3 _ s3;have e4:=hu 4 _ s4;have e5:=hu 5 _ s5;have e7:=hu 7 _ s7;have e11:=hu 11 _ s11;have e12:=hu 12 _ s12;have e13:=hu 13 _ s13;rw[e2,e3,e4,e5,e7,e11,e12,e13]at ha;subst ha;clear hu g1 g2 g3 e2 s2 e3 s3 e4 s4 e5 s5 e7 s7 e11 s11 e12 s12 e13 s13;have hM:=hid hi;have hl:=hid hj;have hb:=hid hs;have HD:=hid (And.intro hx ht);clear hj hs hx ht;by_cases hd:b<n
  ·have hv:=hi.dnAt.cell b;rw[List.getElem?_toArray,List.getElem?_map,VO hd]at hv
   replace hv:wr.cell? ⟨db,b,none⟩=some (.bool (decide (b<d))):=hv
   have HH:=hi.dnAt.lt;obtain⟨dbit,ho⟩:∃ z,decide (b<d)=z:=⟨_,rfl⟩
   rw[ho]at hv;have hO:=hid ho;clear ho hi;go_upto_block 10 with fail
   refine Zgj w wr (exD r pb db ph (dnL n d)) sa sl sc l rows m r mb bb n tb pb db tn b 0 (some ⟨wr.heap.size,0,none⟩) (!dbit) _ _ _ (Zv rfl rfl (Za rfl (Za rfl (Za rfl (Za rfl (Za rfl (Za rfl (Za rfl (Za rfl (Za rfl (Za rfl (Za rfl (Zo _))))))))))))) hM.out hH.2 (X6.start wr m.bks n) ?_;intro a1 w2 va vc aw hf hL hA;obtain⟨u,ha,hu⟩:=Zr hf;obtain⟨g1,g2,s2,s3,s4,s5,s7,s11,s12,s13,s14,s15,g3⟩:=hf;have e2:=hu 2 _ s2;have e3:=hu 3 _ s3;have e4:=hu 4 _ s4;have e5:=hu 5 _ s5;have e7:=hu 7 _ s7;have e11:=hu 11 _ s11;have e12:=hu 12 _ s12;have e13:=hu 13 _ s13;have e14:=hu 14 _ s14;have e15:=hu 15 _ s15;rw[e2,e3,e4,e5,e7,e11,e12,e13,e14,e15]at ha;subst ha;clear hu g1 g2 g3 e2 s2 e3 s3 e4 s4 e5 s5 e7 s7 e11 s11 e12 s12 e13 s13 e14 s14 e15 s15;obtain⟨vb,vcap,cur,hP,hD,Hp,hF⟩:=hM.out.away hL (by rw[hA];omega);rw[hA]at hP;injection hP with HC HN HB
   subst HC;subst HB;have hg:=hid hD;have HK:=hid Hp;have HM:=hid (fun pre=>ZcX (vb:=vb) (cur:=cur) (b:=b) pre hL hA hF hd)
   have Hi:=hid (Ze5 hD hL hA hF hd hl.out HL.out);clear hL hA hD Hp hF hv HH;go_upto_block 12 with fail
   refine Zfj r mb n tb pb db tn b d vb vc dbit _ _ _ (Zv rfl rfl (Za rfl (Za rfl (Za rfl (Za rfl (Za rfl (Za rfl (Za rfl (Za rfl (Za rfl (Za rfl (Za rfl (Zo _))))))))))))) hH.2 hd (fun e=>⟨by
    have h1:=of_decide_eq_false (hO.out.trans e);by_cases h:tn=0
    ·exact HD.out.1 h
    ·have:=HD.out.2 h;omega,trivial,trivial⟩) (hg.out.boxes (bxD db (dnL n d)) (by simp[exD])).1 Hi.out.1 Hi.out.2 ?_
   intro a1 hf;obtain⟨u,ha,hu⟩:=Zr hf;obtain⟨g1,g2,s2,s3,s4,s5,s7,s11,s12,s13,s14,s15,g3⟩:=hf;have e2:=hu 2 _ s2;have e3:=hu 3 _ s3;have e4:=hu 4 _ s4;have e5:=hu 5 _ s5;have e7:=hu 7 _ s7;have e11:=hu 11 _ s11;have e12:=hu 12 _ s12;have e13:=hu 13 _ s13;have e14:=hu 14 _ s14;have e15:=hu 15 _ s15;rw[e2,e3,e4,e5,e7,e11,e12,e13,e14,e15]at ha;subst ha;clear hu g1 g2 g3 e2 s2 e3 s3 e4 s4 e5 s5 e7 s7 e11 s11 e12 s12 e13 s13 e14 s14 e15 s15;clear Hi
   cases dbit
   ·have HI:d=b:=by
     have h1:=of_decide_eq_false hO.out;by_cases h:tn=0
     ·exact HD.out.1 h
     ·have:=HD.out.2 h;omega
    subst HI;have hS:tn=0:=by
     by_cases h:tn=0
     ·exact h
     ·have:=HD.out.2 h;omega
    have Hf:=hid hS;have hI:=(hg.out.boxes (bxD db (dnL n d)) (by simp[exD])).1;have Hw:db<w2.heap.size:=hI.lt;have hE:=hI.cell d
    replace hE:w2.cell? ⟨db,d,none⟩=some (.bool false):=by
     refine hE.trans ?_;show ((dnL n d).map Value.bool).toArray[d]? = _
     rw[List.getElem?_toArray,List.getElem?_map,VO hd,decide_eq_false (by omega)];rfl
    have Hx:w2.frozen? ⟨db,d,none⟩=false:=hI.frozen d;have hn:=hg.out.setDx HK.out d true;rw[Zgq]at hn;have hm:=hid hn;have hp:=hn.box;have Hq:=hp.lt;have HG:=hp.frozen 5;have HJ:=hp.cell 5;clear hI hn hp hS;go_upto_region 43 with fail
    generalize w2.setCell ⟨db,d,none⟩ (.bool true)=w3 at *;clear Hw hE Hx hg;go_upto_block 14 with fail
    have hN:=hid hm.out.ok.good.params;have Ht:=zH (x≤4∧0≤x) (by have h1:=hN.out;have h2:=hb.out.params;omega);refine Za9 w (exD r pb db ph (dnL n (d+1))++awEx vb cur aw) sa sl sc l rows { m with live:=[],livev:=.slice (some ⟨w3.heap.size,0,none⟩) 0 0 } r mb bb n tb pb db tn d vb vc true _ _ _ (Zv rfl rfl (Za rfl (Za rfl (Za rfl (Za rfl (Za rfl (Za rfl (Za rfl (Za rfl (Za rfl (Za rfl (Za rfl (Zo _))))))))))))) (by
     have h:=hm.out.livePut (ys:=[]) (v:=.slice (some ⟨w3.heap.size,0,none⟩) 0 0) (ZbA w3) ((Turn.refl _ _).alloc _) (fun q hq=>.inr (Nat.le_of_eq (Option.some.inj hq))) (by simp)
     rwa [World.setCell_alloc_past _ mb 5 _ Hq]at h) ⟨hN.out.1,hN.out.2.1⟩ hN.out.2.2 rfl ?_
    intro a1 w4 ys v hf hU Hl;obtain⟨u,ha,hu⟩:=Zr hf;obtain⟨g1,g2,s2,s3,s4,s5,s7,s11,s12,s13,s14,s15,g3⟩:=hf;have e2:=hu 2 _ s2;have e3:=hu 3 _ s3;have e4:=hu 4 _ s4;have e5:=hu 5 _ s5;have e7:=hu 7 _ s7;have e11:=hu 11 _ s11;have e12:=hu 12 _ s12;have e13:=hu 13 _ s13;have e14:=hu 14 _ s14;have e15:=hu 15 _ s15;rw[e2,e3,e4,e5,e7,e11,e12,e13,e14,e15]at ha;subst ha;clear hu g1 g2 g3 e2 s2 e3 s3 e4 s4 e5 s5 e7 s7 e11 s11 e12 s12 e13 s13 e14 s14 e15 s15;have Hh:=zH (MSt w (exD r pb db ph (dnL n (d+1))++awEx vb cur aw) mb bb tb (.slice sa sl sc) l n rows { m with live:=ys,livev:=v } w4) hU;have He:=hid Hl;clear hU Hl hm Hq HG HJ;go_upto_block 16 with fail
    refine Zgh w (exD r pb db ph (dnL n (d+1))++awEx vb cur aw) sa sl sc l rows { m with live:=ys,livev:=v } r mb bb n tb pb db tn d vb vc true (dnL n (d+1)) cur _ _ _ (Zv rfl rfl (Za rfl (Za rfl (Za rfl (Za rfl (Za rfl (Za rfl (Za rfl (Za rfl (Za rfl (Za rfl (Za rfl (Zo _))))))))))))) Hh.out hd hH.2 (by simp[exD,bxD]) (Zal _ _) (HM.out _) (hb.out.blk hM.out.len (by omega)) (by have:=He.out;show ys.length≤10;omega) ?_;intro a1 w5 ys5 v5 hf hT Hk;obtain⟨u,ha,hu⟩:=Zr hf;obtain⟨g1,g2,s2,s3,s4,s5,s7,s11,s12,s13,s14,s15,g3⟩:=hf;have e2:=hu 2 _ s2;have e3:=hu 3 _ s3;have e4:=hu 4 _ s4;have e5:=hu 5 _ s5;have e7:=hu 7 _ s7;have e11:=hu 11 _ s11;have e12:=hu 12 _ s12;have e13:=hu 13 _ s13;have e14:=hu 14 _ s14;have e15:=hu 15 _ s15;rw[e2,e3,e4,e5,e7,e11,e12,e13,e14,e15]at ha;subst ha;clear hu g1 g2 g3 e2 s2 e3 s3 e4 s4 e5 s5 e7 s7 e11 s11 e12 s12 e13 s13 e14 s14 e15 s15;have hG:=zH (MSt w (exD r pb db ph (dnL n (d+1))++awEx vb cur aw) mb bb tb (.slice sa sl sc) l n rows { m with live:=ys5,livev:=v5 } w5) hT
    have Hc:=zH (ys5.length≤9004) (by have h1:ys5.length≤ys.length+1000*n:=Hk;have:=He.out;omega);clear hT Hk Hh He;go_wp2_with fail
    refine (Zz hG.out.ok 7 (by decide) (by have h1:=hb.out.at_;show m.at_≤100000;omega)).mono ?_;rintro e w6 ⟨m6,⟨q0,rfl,⟨Ho,HE⟩,HF⟩,hZ,h0⟩;have Hg:=hid (hG.out.mv hZ h0);subst HF;obtain⟨q,rfl⟩:=Int.eq_ofNat_of_zero_le Ho;clear hZ h0 hG;go_upto_block 22 with fail
    refine Zfl w (exD r pb db ph (dnL n (d+1))++awEx vb cur aw) sa sl sc l rows { m with live:=ys5,livev:=v5,at_:=m.at_+1 } r mb bb n tb pb db tn d q _ _ _ (Zv rfl rfl (Za rfl (Za rfl (Za rfl (Za rfl (Za rfl (Za rfl (Za rfl (Za rfl (Za rfl (Za rfl (Zo _)))))))))))) Hg.out hd hH.2 (by omega) (by
     have h1:=hb.out.at_;have h2:=hb.out.next;have h3:=hb.out.total;have h4:=Ht.out;have h5:=Hc.out;exact⟨by show m.at_+1≤5000;omega,by show m.next≤5000;omega,by show m.total≤5000;omega,by show ys5.length≤15000;omega⟩) ?_
    intro a1 w7 m7 hf hk Ha;obtain⟨u,ha,hu⟩:=Zr hf;obtain⟨g1,g2,s2,s3,s4,s5,s7,s11,s12,s13,g3⟩:=hf;have e2:=hu 2 _ s2;have e3:=hu 3 _ s3;have e4:=hu 4 _ s4;have e5:=hu 5 _ s5;have e7:=hu 7 _ s7;have e11:=hu 11 _ s11;have e12:=hu 12 _ s12;have e13:=hu 13 _ s13;rw[e2,e3,e4,e5,e7,e11,e12,e13]at ha;subst ha;clear hu g1 g2 g3 e2 s2 e3 s3 e4 s4 e5 s5 e7 s7 e11 s11 e12 s12 e13 s13;have hc:=hid hk;have hh:=hid Ha;obtain⟨⟨rv,rl⟩,hr,hW,hX⟩:=hk.row hd;obtain⟨ra,rc,hV⟩:=Zp (hk.tgt.row _ hW).1;dsimp only at hV;obtain⟨rn,Hn⟩:∃ z,rl.length=z:=⟨_,rfl⟩
    rw[Hn]at hV;subst hV;have HR:=hid (And.intro hr hW);have Hv:=hk.tgt.box.lt
    replace hX:w7.cell? ⟨tb,d,none⟩=some (.slice ra rn rc):=hX
    clear hk Ha hr hW Hn Hg Ho HE;go_wp2_with fail
    refine (ZgR hc.out.ok (by
     have h1:=hb.out.at_;have h2:=hb.out.next;have h3:=hb.out.total;have h4:=Ht.out;have h5:=Hc.out;have h6:m7.at_≤m.at_+1+180:=hh.out.at_;have h7:m7.next≤m.next+36:=hh.out.next.2;have h8:m7.total≤m.total+42:=hh.out.total;have h9:m7.live.length≤ys5.length+84:=hh.out.live;exact⟨by omega,by omega,by omega,by omega⟩) d (by rw[hc.out.len];exact hd) (.slice ra rn rc) rl (hc.out.tgt.row _ HR.out.2) (fun y hy=>by rw[hc.out.len];exact hc.out.inr _ HR.out.2 y hy) (by have:=hc.out.few _ HR.out.2;dsimp only at this;omega)).mono ?_
    rintro e w8 ⟨m8,t8,rfl,hY,he,hR,hB⟩;rw[hc.out.len]at hB;have hC:=hc.out.step hY ⟨he.turn,he.new⟩ he.len;have Hz:=hid (hC.beside (ex':=exD r pb db ph (dnL n (d+1))) (T:=fun _=>False) (Turn.refl _ _) (fun q _ e=>e.elim) fun z hz=>⟨(hC.boxes z (List.mem_append_left _ hz)).1,.inl ⟨z,List.mem_append_left _ hz,rfl⟩⟩)
    have HA:=hid (hb.out.more (m1:={ m with live:=ys5,livev:=v5,at_:=m.at_+1 }) ⟨rfl,rfl,rfl,rfl⟩ Hc.out hh.out he hB);have Hy:=hid (Yh.more (m1:={ m with live:=ys5,livev:=v5,at_:=m.at_+1 }) hl.out hh.out he HR.out.1 hR);clear hY he hR hB hC hX Hv hc;go_wp2_with fail
    exact Hu.out (n-(d+1)) _ _ (by omega) ⟨d+1,d+1,m8,rfl,by omega,fun _=>rfl,fun h=>absurd Hf.out h,(Zv rfl rfl (Za rfl (Za rfl (Za rfl (Za rfl (Za rfl (Za rfl (Za rfl (Za rfl (Zo _)))))))))),Hz.out,Hy.out,HA.out⟩
   ·have Hb:d=n:=by
     have h1:=of_decide_eq_true hO.out;by_cases h:tn=0
     ·have:=HD.out.1 h;omega
     ·exact HD.out.2 h
    have Hm:tn≠0:=fun h=>by
     have h1:=of_decide_eq_true hO.out;have:=HD.out.1 h;omega
    have Hf:=hid Hm;have HP:=hid Hb;have hm:=hid (hg.out.beside (ex':=exD r pb db ph (dnL n d)) (T:=fun _=>False) (Turn.refl _ _) (fun q _ e=>e.elim) fun z hz=>⟨(hg.out.boxes z (List.mem_append_left _ hz)).1,.inl ⟨z,List.mem_append_left _ hz,rfl⟩⟩)
    clear Hb Hm;go_wp2_with fail
    exact Hu.out (n-(b+1)) _ _ (by omega) ⟨b+1,d,m,rfl,by omega,fun h=>absurd h Hf.out,HD.out.2,(Zv rfl rfl (Za rfl (Za rfl (Za rfl (Za rfl (Za rfl (Za rfl (Za rfl (Za rfl (Zo _)))))))))),hm.out,hl.out,hb.out⟩
  ·obtain rfl:n=b:=by omega
   clear hi;go_wp2_with fail
   exact HQ.out _ _ d m (Zv rfl rfl (Za rfl (Za rfl (Za rfl (Za rfl (Za rfl (Za rfl (Za rfl (Zo _))))))))) hM.out (by
    by_cases h:tn=0
    ·exact HD.out.1 h
    ·exact HD.out.2 h) hl.out hb.out
theorem Zfi (w:World) (sa:Option Addr) (sl sc:Nat) (l:List Int) (rows:List (Value × List Int)) (m:Zj) (r mb bb n tb pb db:Nat) (ph:List Int) (x:Int) (a0:Act) (w1:World) (Q0:Exit→Act→World→Prop) (hk:Fr [(2,.pointer (some ⟨r,0,none⟩)),(3,.pointer (some ⟨mb,0,none⟩)),(4,.int .i64 n),(5,.slice (some ⟨tb,0,none⟩) n n),(7,.slice (some ⟨pb,0,none⟩) n n),(11,.slice (some ⟨db,0,none⟩) n n),(12,.int .i64 0)] a0)
  (hc:MSt w (exD r pb db ph (dnL n 0)) mb bb tb (.slice sa sl sc) l n rows m w1) (ht:1≤n∧n≤9) (ho:XQ rows n) (hb:Yh rows n m.bks) (hd:Lp x ph n 0 m)
  (hQ:∀ a1 w2 (m:Zj),Fr [(2,.pointer (some ⟨r,0,none⟩)),(3,.pointer (some ⟨mb,0,none⟩)),(4,.int .i64 n),(5,.slice (some ⟨tb,0,none⟩) n n),(7,.slice (some ⟨pb,0,none⟩) n n),(11,.slice (some ⟨db,0,none⟩) n n)] a1→MSt w (exD r pb db ph (dnL n n)) mb bb tb (.slice sa sl sc) l n rows m w2→Yh rows n m.bks→Lp x ph n n m→Q0 .normal a1 w2):Code.wp Tryz.prog (mkCode [1,1,1,1,1,1,1,1,1,1,1,0,1]) Q0 a0 w1:=by
 obtain⟨u,ha,hu⟩:=Zr hk;obtain⟨g1,g2,s2,s3,s4,s5,s7,s11,s12,g3⟩:=hk;have e2:=hu 2 _ s2;have e3:=hu 3 _ s3;have e4:=hu 4 _ s4;have e5:=hu 5 _ s5;have e7:=hu 7 _ s7;have e11:=hu 11 _ s11;have e12:=hu 12 _ s12;rw[e2,e3,e4,e5,e7,e11,e12]at ha;subst ha;clear hu g1 g2 g3 e2 s2 e3 s3 e4 s4 e5 s5 e7 s7 e11 s11 e12 s12
 conv=>arg 2;whnf
 have HQ:=hid hQ;have hy:=hid ho;have he:=hid hb;have hg:=hid hd;clear hQ ho hb hd;go_wp2_with fail
 refine YC (fun t ac wr=>∃ (tn d:Nat) (m:Zj),t=n-tn∧tn≤n∧(tn=0→d=0)∧(tn≠0→d=n)∧Fr [(2,.pointer (some ⟨r,0,none⟩)),(3,.pointer (some ⟨mb,0,none⟩)),(4,.int .i64 n),(5,.slice (some ⟨tb,0,none⟩) n n),(7,.slice (some ⟨pb,0,none⟩) n n),(11,.slice (some ⟨db,0,none⟩) n n),(12,.int .i64 tn)] ac∧MSt w (exD r pb db ph (dnL n d)) mb bb tb (.slice sa sl sc) l n rows m wr∧Yh rows n m.bks∧Lp x ph n d m) n ⟨0,0,m,rfl,Nat.zero_le _,fun _=>rfl,fun h=>absurd rfl h,(Zv rfl rfl (Za rfl (Za rfl (Za rfl (Za rfl (Za rfl (Za rfl (Za rfl (Zo _))))))))),hc,he.out,hg.out⟩ ?_
 ·clear hc he hg m;intro t a1 wr K hJ hK;have hv:=hid hK;clear hK;obtain⟨tn,d,m,rfl,hA,hn,hl,hf,hc,hb,hd⟩:=hJ;obtain⟨u,ha,hu⟩:=Zr hf;obtain⟨g1,g2,s2,s3,s4,s5,s7,s11,s12,g3⟩:=hf;have e2:=hu 2 _ s2;have e3:=hu 3 _ s3;have e4:=hu 4 _ s4;have e5:=hu 5 _ s5;have e7:=hu 7 _ s7;have e11:=hu 11 _ s11;have e12:=hu 12 _ s12;rw[e2,e3,e4,e5,e7,e11,e12]at ha;subst ha;clear hu g1 g2 g3 e2 s2 e3 s3 e4 s4 e5 s5 e7 s7 e11 s11 e12 s12;have hp:=hid hc;have he:=hid hb;have hg:=hid hd;have HD:=hid (And.intro hn hl);clear hb hd hn hl hc;by_cases hz:tn<n
  ·go_upto_block 8 with fail
   refine Zge w sa sl sc l rows m r mb bb n tb pb db tn d ph x _ _ _ (Zv rfl rfl (Za rfl (Za rfl (Za rfl (Za rfl (Za rfl (Za rfl (Za rfl (Za rfl (Zo _)))))))))) hp.out ht hy.out HD.out.1 HD.out.2 he.out hg.out ?_;intro a1 w2 d2 m2 hf hi hm hh hj;obtain⟨u,ha,hu⟩:=Zr hf;obtain⟨g1,g2,s2,s3,s4,s5,s7,s11,s12,g3⟩:=hf;have e2:=hu 2 _ s2;have e3:=hu 3 _ s3;have e4:=hu 4 _ s4;have e5:=hu 5 _ s5;have e7:=hu 7 _ s7;have e11:=hu 11 _ s11;have e12:=hu 12 _ s12;rw[e2,e3,e4,e5,e7,e11,e12]at ha;subst ha;clear hu g1 g2 g3 e2 s2 e3 s3 e4 s4 e5 s5 e7 s7 e11 s11 e12 s12;have hr:=hid hi;have hq:=hid hh;have hs:=hid hj;have hx:=hid hm;clear hi hh hj hm;go_wp2_with fail
   exact hv.out (n-(tn+1)) _ _ (by omega) ⟨tn+1,d2,m2,rfl,by omega,fun h=>absurd h (by omega),fun _=>hx.out,(Zv rfl rfl (Za rfl (Za rfl (Za rfl (Za rfl (Za rfl (Za rfl (Za rfl (Zo _))))))))),hr.out,hq.out,hs.out⟩
  ·obtain rfl:n=tn:=by omega
   go_wp2_with fail
   exact HQ.out _ _ m (Zv rfl rfl (Za rfl (Za rfl (Za rfl (Za rfl (Za rfl (Za rfl (Zo _)))))))) (by have h:=hp.out;rwa [HD.out.2 (by omega)]at h) he.out (by have h:=hg.out;rwa [HD.out.2 (by omega)]at h)
structure Xn (x:Int) (ph:List Int) (n c:Nat) (m:Zj):Prop where
 phs:ph.length=n∧(∀ v∈ph,0≤v∧v≤3)∧ph[0]? = some 0
 cnt:∀ (j:Nat) (k:FBlk) (v:Int),m.bks[j]? = some k→ph[j]? = some v→(k.phis.length:Int)=v
 phi:∀ k∈m.bks,∀ p∈k.phis,(0≤p.dst∧p.dst<700)∧p.ins.length≤9∧∀ y∈p.ins,(0≤y.1∧y.1<(n:Int))∧0≤y.2∧y.2<700
 at_:m.at_≤2000+3*c
 next:m.next≤391+c
 params:m.params=x
 total:m.total≤450+c
 live:m.live.length≤10000+2*c
 terms:∀ k∈m.bks,Y6 700 n k.term
section
variable {x : Int} {ph:List Int} {n c d:Nat} {m m':Zj} {w w':World} {v : Value} {xs:List Int} {bx:List Bx}
theorem Xn.start (h:Lp x ph n n m) (hl:m.bks.length=n) (hn:n≤9) (hx:x≤4):Xn x ph n 0 m:=by
 have h1:=h.at_;have h2:=h.next;have h3:=h.total;have h4:=h.live;refine⟨⟨h.phs.len,h.phs.few,h.phs.zero⟩,fun j k v hk hv=>h.phs.cnt j k v ?_ hk hv,fun k hk p hp=>?_,by omega,by omega,h.params,by omega,by omega,fun k hk=>?_⟩
 ·have:=(List.getElem?_eq_some_iff.1 hk).1;omega
 ·obtain⟨a1,a2⟩:=h.phs.phi k hk p hp;rw[a2];exact⟨⟨a1.1,by omega⟩,by simp,fun y hy=>by cases hy⟩
 ·obtain⟨j,hj⟩:=List.getElem?_of_mem hk;exact (h.terms j k (by have:=(List.getElem?_eq_some_iff.1 hj).1;omega) hj).mono (by omega)
theorem Xn.mv {a i e:Nat} (h:Xn x ph n c m) (hm:MvC m m' a i e) (ha:a≤3*d) (hi:i≤d) (he:e≤d):Xn x ph n (c+d) m':=by
 have hs:∀ k'∈m'.bks,∃ k∈m.bks,k'.phis=k.phis∧k'.term=k.term:=fun k' hb=>by
  obtain⟨j,hj⟩:=List.getElem?_of_mem hb;obtain⟨k,h1,h2⟩:=hm.at hj;exact⟨k,List.mem_of_getElem? h1,h2⟩
 refine⟨h.phs,fun j k v hk hv=>?_,fun k hk p hp=>?_,by have:=h.at_;have:=hm.at_;omega,by have:=h.next;have:=hm.next.2;omega,hm.same.1.trans h.params,by have:=h.total;have:=hm.total;omega,by have:=h.live;have:=hm.live;omega,fun k hk=>?_⟩
 ·obtain⟨k0,h1,h2,_⟩:=hm.at hk;rw[h2];exact h.cnt j k0 v h1 hv
 ·obtain⟨k0,h1,h2,_⟩:=hs k hk;rw[h2]at hp;exact h.phi k0 h1 p hp
 ·obtain⟨k0,h1,_,h2⟩:=hs k hk;rw[h2];exact h.terms k0 h1
theorem Xn.few (h:Xn x ph n c m) (hl:m.bks.length=n) (hn:n≤9) (hc:c≤300) (hg:∀ b∈m.bks,∀ y∈b.ins,Yq m.next y):ZdL 700 m.bks:=by
 refine⟨by omega,fun b hb=>⟨?_,fun p hp=>⟨(h.phi b hb p hp).1,by have:=(h.phi b hb p hp).2.1;omega⟩⟩,fun b hb=>⟨?_,fun y hy=>(hg b hb y hy).mono (by have:=h.next;omega)⟩⟩
 ·obtain⟨j,hj⟩:=List.getElem?_of_mem hb;obtain⟨v,hv⟩:∃ v,ph[j]? = some v:=⟨_,List.getElem?_eq_getElem (by rw[h.phs.1,←hl];exact (List.getElem?_eq_some_iff.1 hj).1)⟩
  have h1:=h.cnt j b v hj hv;have h2:=h.phs.2.1 v (List.mem_of_getElem? hv);omega
 ·have h1:=J2 hb;have h2:=h.total;omega
theorem ZbI {α β:Type} {f : α→β} {l : List α} {b : Nat} {k k':α} (hb:l[b]? = some k) (hf:f k'=f k):(l.set b k').map f=l.map f:=by
 rw[List.map_set,hf];apply List.ext_getElem?
 intro t;rw[List.getElem?_set];split
 ·rename_i e
  subst e;rw[if_pos (by rw[List.length_map];exact (List.getElem?_eq_some_iff.1 hb).1),List.getElem?_map,hb];rfl
 ·rfl
theorem Xn.setIn {b i:Nat} {k : FBlk} {p : ZC} {ins:List (Int × Int)} {iv:Value} (h:Xn x ph n c m) (hb:m.bks[b]? = some k) (hi:k.phis[i]? = some p) (hl:ins.length≤9) (hc:∀ y∈ins,(0≤y.1∧y.1<(n:Int))∧0≤y.2∧y.2<700) :
  Xn x ph n c { m with bks:=m.bks.set b { k with phis:=k.phis.set i { p with ins:=ins,inv:=iv } } }:=by
 have ha:=List.mem_of_getElem? hb;refine⟨h.phs,fun j k2 v hk hv=>?_,fun k2 hk q hq=>?_,h.at_,h.next,h.params,?_,h.live,fun k2 hk=>?_⟩
 ·rcases ZF hk with ⟨rfl,rfl⟩|⟨_,h2⟩
  ·have:=h.cnt _ k v hb hv;simpa using this
  ·exact h.cnt j k2 v h2 hv
 ·rcases Yc hk with rfl|⟨j,_,hj⟩
  ·rcases List.mem_or_eq_of_mem_set hq with hq|rfl
   ·exact h.phi k ha q hq
   ·exact⟨(h.phi k ha p (List.mem_of_getElem? hi)).1,hl,hc⟩
  ·exact h.phi k2 (List.mem_of_getElem? hj) q hq
 ·show Zj.total _≤_
  unfold Zj.total;dsimp only;rw[ZbI (f:=fun b=>b.ins.length) (k':={ k with phis:=k.phis.set i { p with ins:=ins,inv:=iv } }) hb rfl];exact h.total
 ·rcases Yc hk with rfl|⟨j,_,hj⟩
  ·exact h.terms k ha
  ·exact h.terms k2 (List.mem_of_getElem? hj)
def BV (v:Value) (xs:List Int) (bx:List Bx):Prop:=
 (v=.slice none 0 0∧xs=[]∧bx=[])∨∃ g cap cur,v=.slice (some ⟨g,0,none⟩) xs.length cap∧bx=[⟨g,cur,3⟩]∧∀ (j:Nat) (y:Int),xs[j]? = some y→cur[j]? = some (.int .i64 y)
theorem ZdA {base:Nat} (h:w.ownsRow base 3 1 v xs.length (xs.map (Value.int .i64))):∃ bx,BV v xs bx∧∀ x∈bx,(HeapIs w x.q x.cs x.ty∧base≤x.q)∧x.ty=3:=by
 obtain⟨hd,⟨hv,hn⟩|⟨g,cap,cur,hv,hb,hg,he,hh,hf,hc⟩⟩:=h
 ·exact⟨[],.inl ⟨hv,List.length_eq_zero_iff.1 hn,rfl⟩,fun x hx=>by cases hx⟩
 ·refine⟨[⟨g,cur,3⟩],.inr ⟨g,cap,cur,hv,rfl,fun j y hj=>?_⟩,fun x hx=>?_⟩
  ·have h1:=congrArg (fun l=>l[j]?) hc;have ha:=(List.getElem?_eq_some_iff.1 hj).1;simp only[List.getElem?_map,hj,Option.map_some,List.getElem?_take,Nat.mul_one,if_pos ha]at h1;rw[←Array.getElem?_toList];exact h1
  ·rw[List.mem_singleton.1 hx];exact⟨⟨hg,hb⟩,rfl⟩
theorem BV.cell (h:BV v xs bx) (hb:∀ x∈bx,HeapIs w x.q x.cs x.ty) {j : Nat} {y : Int} (hj:xs[j]? = some y):∃ g cap,v=.slice (some ⟨g,0,none⟩) xs.length cap∧w.cell? ⟨g,j,none⟩=some (.int .i64 y)∧g<w.heap.size:=by
 rcases h with ⟨_,rfl,_⟩|⟨g,cap,cur,hv,rfl,hc⟩
 ·cases hj
 ·have h1:=hb _ (List.mem_singleton.2 rfl);exact⟨g,cap,hv,(h1.cell j).trans (hc j y hj),h1.lt⟩
theorem BV.own (h:BV v xs bx) {q : Nat} (hq:v.ownBlock=some q):CE bx q:=by
 rcases h with ⟨rfl,_,_⟩|⟨g,cap,cur,rfl,rfl,hc⟩
 ·cases hq
 ·exact⟨_,List.mem_singleton.2 rfl,Option.some.inj hq⟩
end
end Go.Proofs.YtmhojfpidedjeaaGreatDoor
