import Derived.Test.YtimpddecdodddaaGreatSt25
import Derived.Test.YtimpddecdodddaaGreatSt42
import Derived.Test.YtimpddecdodddaaGreatSt43
namespace Go.Proofs.YtimpddecdodddaaGreat
open Go.Proofs.Tryz Go.RowKit Go.Lib
set_option linter.unusedVariables false
set_option maxHeartbeats 4000000
set_option maxRecDepth 1000000
theorem ZcO (w0:World) (sv:Value) (l:List Int) (params:Int) (fb:List Zt) (xb rb kb ob FB foff n fbc:Nat) (a0:Act) (w1:World) (Q0:Exit→Act→World→Prop) (HL:FrO [(2,.pointer (some ⟨xb,0,none⟩)),(4,.pointer (some ⟨rb,0,none⟩)),(5,.pointer (some ⟨kb,0,none⟩)),(6,.pointer (some ⟨ob,0,none⟩)),(7,.int .i64 (0:Nat))] a0)
  (HM:FnIn w0 ⟨params,fb,.slice (some ⟨FB,foff,none⟩) n fbc⟩) (HN:∀ k∈fb,(∀ x∈k.ins,∀ q,x.av.ownBlock=some q→q<w0.heap.size)∧(∀ q,k.term.argsv.ownBlock=some q→q<w0.heap.size)∧∀ q,k.term.tov.ownBlock=some q→q<w0.heap.size) (HH:MadeF ⟨params,fb,.slice (some ⟨FB,foff,none⟩) n fbc⟩) (HE:fb.length=n) (HF:1≤n∧n≤9)
  (HB:Zd w0 sv l∧∀ q,sv.ownBlock=some q→q<w0.heap.size) (hj:OfS w0 xb ob rb kb n params (.slice (some ⟨FB,foff,none⟩) n fbc) sv fb 0 [] (.slice none 0 0) w1)
  (hQ:∀ a1 w2 bks bkv,FrO [(2,.pointer (some ⟨xb,0,none⟩)),(4,.pointer (some ⟨rb,0,none⟩)),(5,.pointer (some ⟨kb,0,none⟩)),(6,.pointer (some ⟨ob,0,none⟩))] a1→OfS w0 xb ob rb kb n params (.slice (some ⟨FB,foff,none⟩) n fbc) sv fb n bks bkv w2→Q0 .normal a1 w2):Code.wp prog (OCode [1,1,1,0,1]) Q0 a0 w1:=by
 obtain⟨u,hg,hu⟩:=Xh HL;obtain⟨g1,g2,s2,s4,s5,s6,s7,g3⟩:=HL;have e2:=hu 2 _ s2;have e4:=hu 4 _ s4;have e5:=hu 5 _ s5;have e6:=hu 6 _ s6;have e7:=hu 7 _ s7;rw[e2,e4,e5,e6,e7]at hg;subst hg;clear hu g1 g2 g3 e2 s2 e4 s4 e5 s5 e6 s6 e7 s7
 conv=>arg 2;whnf
 have HQ:=hid hQ;have Hy:=hid HM;have tE:=hid HN;have hZ:=hid HH;have Ht:=hid HB;have Hv:=hid HE;clear hQ HM HN HH HB HE;go_wp2_with fail
 refine ZS (fun t ac wr=>∃ (b:Nat) (bks:List MBlkV) (bkv:Value),t=n-b∧b≤n∧FrO [(2,.pointer (some ⟨xb,0,none⟩)),(4,.pointer (some ⟨rb,0,none⟩)),(5,.pointer (some ⟨kb,0,none⟩)),(6,.pointer (some ⟨ob,0,none⟩)),(7,.int .i64 b)] ac∧OfS w0 xb ob rb kb n params (.slice (some ⟨FB,foff,none⟩) n fbc) sv fb b bks bkv wr) n ⟨0,[],.slice none 0 0,rfl,Nat.zero_le _,(XE rfl rfl zf0),hj⟩ ?_
 ·clear hj;intro t a1 wr K hJ hK;have tD:=hid hK;clear hK;obtain⟨b,bks,bkv,rfl,tN,hf,hj⟩:=hJ;obtain⟨u,hg,hu⟩:=Xh hf;obtain⟨g1,g2,s2,s4,s5,s6,s7,g3⟩:=hf;have e2:=hu 2 _ s2;have e4:=hu 4 _ s4;have e5:=hu 5 _ s5;have e6:=hu 6 _ s6;have e7:=hu 7 _ s7;rw[e2,e4,e5,e6,e7]at hg;subst hg;clear hu g1 g2 g3 e2 s2 e4 s4 e5 s5 e6 s6 e7 s7;have hi:=hid hj;have Ha:wr.cell? ⟨xb,1,none⟩=some (.slice (some ⟨FB,foff,none⟩) n fbc):=hj.box.cell 1;have h7:=hj.box.lt;clear hj;by_cases Hm:b<n
  ·obtain⟨k,hk⟩:∃ k,fb[b]? = some k:=⟨_,List.getElem?_eq_getElem (by rw[Hv.out];exact Hm)⟩
   have hD:=List.mem_of_getElem? hk;have HK:=hid hk;have h0:=hid (show k.phis.length≤3∧∀ p∈k.phis,(0≤p.dst∧p.dst<700)∧p.ins.length≤9∧∀ y∈p.ins,(0≤y.1∧y.1<(n:Int))∧0≤y.2∧y.2<700 from by
    have h1:=hZ.out.phis k hD;rw[show (⟨params,fb,.slice (some ⟨FB,foff,none⟩) n fbc⟩:FnV).blocks.length=n from Hv.out]at h1;exact h1)
   have tB:=hid (show Y7 700 n k.term from by
    have h1:=hZ.out.terms k hD;rw[show (⟨params,fb,.slice (some ⟨FB,foff,none⟩) n fbc⟩:FnV).blocks.length=n from Hv.out]at h1;exact h1)
   have tC:=hid (hZ.out.ins k hD);have Hx:=hid (tE.out k hD);have HX:=Jv hk;have HW:YY fb≤700:=hZ.out.total;have td:=Ju fb (b+1);have tG:=zH (YY (fb.take b)+k.ins.length≤700) zaK;clear hk hD HX HW td;go_upto_block 2 with fail
   obtain⟨nb,hC⟩:∃ z,z=wr.heap.size:=⟨_,rfl⟩
   rw[←hC];have Hw:=hid hC;refine Zeo w0 wr params fb k xb rb kb ob nb FB foff n fbc b _ _ _ (XE rfl rfl zf0) Hy.out HK.out HF.2 Hm hi.out.old hi.out.box h0.out.1 (fun p hp=>(h0.out.2 p hp).2.1) ⟨by rw[hC];exact HeapIs.new _ _ _,OwnRow.nil _ _ _ _ _,(fun p hp=>by cases hp),rfl,(Since.refl _).alloc _,Nat.le_of_eq hC.symm⟩ ?_
   clear hC Ha h7;intro a1 w2 phs phv hf hP;obtain⟨u,hg,hu⟩:=Xh hf;obtain⟨g1,g2,s2,s4,s5,s6,s7,s8,g3⟩:=hf;have e2:=hu 2 _ s2;have e4:=hu 4 _ s4;have e5:=hu 5 _ s5;have e6:=hu 6 _ s6;have e7:=hu 7 _ s7;have e8:=hu 8 _ s8;rw[e2,e4,e5,e6,e7,e8]at hg;subst hg;clear hu g1 g2 g3 e2 s2 e4 s4 e5 s5 e6 s6 e7 s7 e8 s8;have HP:=hid hP;have hc:=hid (hi.out.keep hP.old);obtain⟨at_,next,lvx,hE,HS,HG,hU⟩:=hc.out.mkr;have Hn:=hE.lt;have tt:=hE.frozen;have Ho:=hE.cell 3;have hs:=hid hE;have h4:=hid (And.intro HS (And.intro HG hU));clear hP hE HS HG hU;go_upto_block 4 with fail
   obtain⟨w3,hS⟩:∃ z,z=w2.setCell ⟨kb,3,none⟩ (.slice none 0 0):=⟨_,rfl⟩
   have t3:Zb (fun q=>q=kb) w2 w3:=by rw[hS];exact (Zb.refl (fun q=>q=kb) w2).setCell (p:=⟨kb,3,none⟩) rfl _
   have HI:HeapIs w3 kb #[sv,.int .i64 at_,.int .i64 next,.slice none 0 0] 172:=by rw[hS];exact hs.out.set 3 _
   rw[←hS];have hA:=hc.out.low;have hh:Since w0 w3:=t3.toSince hc.out.old fun q hq e=>by omega
   have Hj:w0.heap.size≤nb:=by rw[Hw.out];exact hi.out.old.size
   have hn:¬ (kb=ob)∧¬ (kb=rb)∧¬ (kb=nb)∧¬ bkv.ownBlock=some kb:=⟨Yq hs.out hc.out.out zaJ,Yq hs.out hc.out.res zaJ,Yq hs.out HP.out.box zaJ,Zn hc.out.row hs.out zaJ⟩;have hB:∀ q,OfC ob rb nb bkv q→w0.heap.size≤q∧q<w2.heap.size:=by
    rintro q (e|e|e|e)
    ·rw[e];exact⟨hA.2.1,hc.out.out.lt⟩
    ·rw[e];exact⟨hA.2.2.1,hc.out.res.lt⟩
    ·rw[e];exact⟨Hj,HP.out.box.lt⟩
    ·exact World.ownsRow.lt (show w2.ownsRow _ _ _ _ _ _ from hc.out.row) q e
   have Hg:K7Ok (OfC ob rb nb bkv) kb sv l ⟨at_,next,[],.slice none 0 0,w0.heap.size⟩ w3:=by
    refine⟨HI,⟨Ht.out.1.keep hh,fun q hq=>⟨fun e=>?_,by have:=Ht.out.2 q hq;have:=hh.size;omega⟩⟩,OwnRow.nil _ _ _ _ _,fun x hx=>zaI,fun x hx=>zaI,by have:=hh.size;exact this,fun x hx=>zaI,fun q hq=>⟨by have:=(hB q hq).2;have:=t3.size;omega,fun e=>?_⟩⟩
    ·have h1:=Ht.out.2 q hq;rcases e with (e|e)|e
     ·omega
     ·cases e
     ·have:=(hB q e).1;omega
    ·rcases e with e|e
     ·subst e;rcases hq with e|e|e|e
      ·exact hn.1 e
      ·exact hn.2.1 e
      ·exact hn.2.2.1 e
      ·exact hn.2.2.2 e
     ·cases e
   have hH:(∀ q,YM kb ⟨at_,next,[],.slice none 0 0,w0.heap.size⟩ q→w0.heap.size≤q)∧∀ q,OfC ob rb nb bkv q→w0.heap.size≤q:=⟨(by
    rintro q (e|e)
    ·rw[e];exact hA.1
    ·cases e),fun q hq=>(hB q hq).1⟩
   have h8:¬ xb=kb:=Yq hc.out.box hs.out zaJ;have hF:HeapIs w3 xb #[.int .i64 params,.slice (some ⟨FB,foff,none⟩) n fbc] 109∧¬ YM kb ⟨at_,next,[],.slice none 0 0,w0.heap.size⟩ xb:=⟨hc.out.box.turn t3 h8,by
    rintro (e|e)
    ·exact h8 e
    ·cases e⟩
   have hY:=hid hh;have hN:=hid hH;have Hs:=hid hF;have T3:=hid t3;have tP:=h4.out;have tO:=tG.out;clear Hn tt Ho hS t3 HI hA Hj hn hB h8;refine ZeZ w0 w3 (OfC ob rb nb bkv) sv l ⟨at_,next,[],.slice none 0 0,w0.heap.size⟩ params fb k xb rb kb ob nb FB foff n fbc b _ _ _ (XE rfl rfl zf0) Hy.out ⟨Hx.out.1,trivial⟩ HK.out HF.2 Hm hh hF hH tC.out zaK (by show at_+_≤_;omega) (by show 0≤next∧next+_≤_;omega) rfl Hg (Mv7.refl _ _ _) ?_;clear hh hH hF Hg;intro a1 w4 m4 hf Hf he;obtain⟨u,hg,hu⟩:=Xh hf;obtain⟨g1,g2,s2,s4,s5,s6,s7,s8,g3⟩:=hf;have e2:=hu 2 _ s2;have e4:=hu 4 _ s4;have e5:=hu 5 _ s5;have e6:=hu 6 _ s6;have e7:=hu 7 _ s7;have e8:=hu 8 _ s8;rw[e2,e4,e5,e6,e7,e8]at hg;subst hg;clear hu g1 g2 g3 e2 s2 e4 s4 e5 s5 e6 s6 e7 s7 e8 s8;have hy:=he.old hY.out hN.out.1;have ha:=FAt.of Hy.out HK.out hy (he.heap Hs.out.1 Hs.out.2)
   have Ha:w4.cell? ⟨xb,1,none⟩=some (.slice (some ⟨FB,foff,none⟩) n fbc):=ha.box.cell 1;have h7:=ha.box.lt;have tu:=ha.lt;have ti:w4.cell? ⟨FB,foff+b*6+2,none⟩=some (.int .i64 k.term.kind):=ha.cell 2 zaJ;have th:w4.cell? ⟨FB,foff+b*6+3,none⟩=some k.term.argsv:=ha.cell 3 zaJ;have tg:w4.cell? ⟨FB,foff+b*6+4,none⟩=some k.term.tov:=ha.cell 4 zaJ;have tf:w4.cell? ⟨FB,foff+b*6+5,none⟩=some (.int .i32 k.term.imm):=ha.cell 5 zaJ;have ht:∀ {v : Value},(∀ q,v.ownBlock=some q→q<w0.heap.size)→Stays (ZT (OfC ob rb nb bkv) kb m4) w4 v:=fun hv q hq=>by
    have h1:=hv q hq;have h2:=hy.size;have h3:=hY.out.size;refine⟨?_,zaK⟩;rintro (e|e)
    ·rcases he.new q e with h5|h5
     ·have:=hN.out.1 q h5;omega
     ·omega
    ·have:=hN.out.2 q e;omega
   have tw:=zH ((Zd w4 k.term.argsv k.term.args∧Stays (ZT (OfC ob rb nb bkv) kb m4) w4 k.term.argsv)∧Zd w4 k.term.tov k.term.to∧Stays (ZT (OfC ob rb nb bkv) kb m4) w4 k.term.tov) ⟨⟨ha.blk.2.2.1,ht Hx.out.2.1⟩,ha.blk.2.2.2,ht Hx.out.2.2⟩;have H1:=hid Hf;have H4:=hid he;have HZ:=hid (show Sm7 40 m4 from by
    have h1:=he.at_;have h2:=he.next;have h3:=he.len;simp only[List.length_nil]at h3;dsimp only at h1 h2;exact⟨zaK,zaK,zaK⟩)
   clear Hf he ha ht hy;go_wp2_with fail
   refine (Ze9 H1.out HZ.out k.term n tw.out tB.out).mono ?_;rintro e w5 ⟨m5,ev,rfl,HO,hl,Hk,hL,Hp⟩;obtain⟨eop,ea,eb,eto,etov,eimm⟩:=ev;obtain⟨ta,tc,HA⟩:=Zc hL.1;dsimp only at HA;subst HA;have tF:=hid HO;have H6:=hid hL;have H5:=hid Hp;have hM:=hid hl;have hr:=hid ((H4.out.trans Hk).more (a':=4*k.ins.length+2) (n':=4*k.ins.length+1) (i':=5*k.ins.length+2) zaK zaK zaK);obtain⟨va,vc,He⟩:=OwnRow.shape HP.out.row;obtain⟨pl,HC⟩:∃ z,phs.length=z:=⟨_,rfl⟩
   rw[HC]at He;subst He;obtain⟨la,lc,Hl⟩:=Ze (show w5.ownsRow _ _ _ _ _ _ from hl.row);obtain⟨ll,HJ⟩:∃ z,m5.l.length=z:=⟨_,rfl⟩
   rw[HJ]at Hl;have HU:=hid Hl;obtain⟨ba,bc,HR⟩:=OwnRow.shape hi.out.row;obtain⟨bl,Hq⟩:∃ z,bks.length=z:=⟨_,rfl⟩
   rw[Hq]at HR;subst HR;have h6:=hid Hq;obtain⟨tl,Hb⟩:∃ z,eto.length=z:=⟨_,rfl⟩
   have hW:¬ kb=nb:=fun e=>(hl.aside nb (.inr (.inr (.inl rfl)))).2 (.inl e.symm)
   have hV:¬ kb=ob:=fun e=>(hl.aside ob (.inl rfl)).2 (.inl e.symm)
   have hb:HeapIs w5 nb #[.slice va pl vc,.slice none 0 0,.int .i64 0,.int .i64 0,.int .i64 0,.slice none 0 0,.int .i32 0] 135:=hr.out.heap (HP.out.box.turn T3.out fun e=>hW e.symm) fun e=>by
    rcases e with e|e
    ·exact hW e.symm
    ·cases e
   have hG:HeapIs w5 ob #[.int .i64 params,.slice ba bl bc] 101:=hr.out.heap (hc.out.out.turn T3.out fun e=>hV e.symm) fun e=>by
    rcases e with e|e
    ·exact hV e.symm
    ·cases e
   have HD:¬ ob=nb:=Yq hG hb zaJ;have HT:=hid (And.intro hW (And.intro hV HD));have H9:=hid hb;have H3:=hid hG;have Hh:=hb.lt;have Hi:=hb.frozen;have ts:=hb.cell 2;have tr:=hb.cell 3;have tq:=hb.cell 4;have tp:=hb.cell 5;have tn:=hb.cell 6;unfold edv;dsimp only;have tv:=hid Hb;rw[Hb];clear HO hL Hp hl Hk Hl HJ Hq Hb hW hV hb hG HD Ha h7 tu ti th tg tf HC;go_upto_region 18 with fail
   obtain⟨w6,hR⟩:∃ z,z=((((w5.setCell ⟨nb,2,none⟩ (.int .i64 eop)).setCell ⟨nb,3,none⟩ (.int .i64 ea)).setCell ⟨nb,4,none⟩ (.int .i64 eb)).setCell ⟨nb,5,none⟩ (.slice ta tl tc)).setCell ⟨nb,6,none⟩ (.int .i32 eimm):=⟨_,rfl⟩
   have t6:Zb (fun q=>q=nb) w5 w6:=by rw[hR];exact (((((Zb.refl (fun q=>q=nb) w5).setCell (p:=⟨nb,2,none⟩) rfl _).setCell (p:=⟨nb,3,none⟩) rfl _).setCell (p:=⟨nb,4,none⟩) rfl _).setCell (p:=⟨nb,5,none⟩) rfl _).setCell (p:=⟨nb,6,none⟩) rfl _
   have ho:HeapIs w6 nb #[.slice va pl vc,.slice none 0 0,.int .i64 eop,.int .i64 ea,.int .i64 eb,.slice ta tl tc,.int .i32 eimm] 135:=by rw[hR];exact ((((H9.out.set 2 _).set 3 _).set 4 _).set 5 _).set 6 _
   rw[←hR];have hI:HeapIs w6 kb #[sv,.int .i64 m5.at_,.int .i64 m5.next,.slice la ll lc] 172:=by rw[←HU.out];exact hM.out.made.turn t6 HT.out.1
   have Hn:=hI.lt;have Ho:=hI.cell 3;clear Hh Hi ts tr tq tp tn;have Hh:=ho.lt;have Hi:=ho.frozen;have hU:=ho.cell 1;have T6:=hid t6;have H8:=hid ho;clear hR t6 ho hI;go_upto_region 19 with fail
   obtain⟨w7,hO⟩:∃ z,z=w6.setCell ⟨nb,1,none⟩ (.slice la ll lc):=⟨_,rfl⟩
   have t7:Zb (fun q=>q=nb) w5 w7:=by rw[hO];exact T6.out.setCell (p:=⟨nb,1,none⟩) rfl _
   have H7:=zH (HeapIs w7 nb #[.slice va pl vc,.slice la ll lc,.int .i64 eop,.int .i64 ea,.int .i64 eb,.slice ta tl tc,.int .i32 eimm] 135) (by rw[hO];exact H8.out.set 1 _);rw[←hO];have hz:=H3.out.turn t7 HT.out.2.2;have tj:=hz.lt;have tm:=hz.cell 1;have Hu:=hid hz;have hX:=hid (show OwnRow mbcells 7 135 w0.heap.size w7 (.slice ba bl bc) bks from by
    have h2:=hc.out.row;have hd:∀ q,(Value.slice ba bl bc).ownBlock=some q→¬ q=nb∧¬ q=kb:=fun q hq=>⟨fun e=>by have h9:=(World.ownsRow.lt (show wr.ownsRow _ _ _ _ _ _ from hi.out.row) q hq).2;have:=Hw.out;omega,fun e=>(hM.out.aside q (.inr (.inr (.inr hq)))).2 (.inl e)⟩
    exact Zg (Zg (Zg h2 T3.out fun q hq e=>(hd q hq).2 e) hr.out.turn fun q hq e=>by
     rcases e with e|e
     ·exact (hd q hq).2 e
     ·cases e) t7 fun q hq e=>(hd q hq).1 e)
   have T7:=hid t7;obtain⟨BB,Hr⟩:∃ z:MBlkV,z=⟨phs,.slice va pl vc,m5.l,.slice la ll lc,⟨eop,ea,eb,eto,.slice ta tl tc,eimm⟩⟩:=⟨_,rfl⟩
   have HV:=zH (mbcells BB=[.slice va pl vc,.slice la ll lc,.int .i64 eop,.int .i64 ea,.int .i64 eb,.slice ta tl tc,.int .i32 eimm]) (by rw[Hr];rfl);have tJ:=hid (show ∀ u∈mbcells BB,u.oneCell'=true from by
    rw[HV.out];intro u hu;simp only[List.mem_cons,List.not_mem_nil,or_false]at hu;rcases hu with rfl | rfl | rfl | rfl | rfl | rfl | rfl<;>rfl)
   have tI:=zH (w0.heap.size≤w7.heap.size) (by have:=hi.out.old.size;have:=HP.out.old.size;have:=T3.out.size;have:=hr.out.turn.size;have:=T7.out.size;omega);have tH:=hid Hr;have tL:bl≤9:=by have:=h6.out;have:=hi.out.len;omega
   clear hO t7 hz Hn Ho Hh Hi hU Hr;go_wp2_with (first | refine wpList_load_row rfl _ _ rfl nb rfl 135 _ (0,0) _ H7.out underlying135 rfl zaF ?_ | (refine ZC (base:=w0.heap.size) mbcells 7 J2 zaJ rfl _ _ 99 rfl 135 (.agg #[.slice none 0 0,.slice none 0 0,.int .i64 0,.int .i64 0,.int .i64 0,.slice none 0 0,.int .i32 0]) 104 underlying99 zaF rfl (.slice ba bl bc) bks BB w7.heap.size 1 135 rfl rfl (OwnRow.keep hX.out ((Since.refl _).alloc _)) (by rw[HV.out];exact ZG _ _) tJ.out (by rw[h6.out];unfold maxLen;omega) (by rw[h6.out];omega) (by have:=tI.out;simp;omega) ?_;intro v' w8 hw Hc hT;have tz:=hid hw;have tx:=hid Hc;have tA:=hid hT;have hm:=(Hu.out.keep ((Since.refl _).alloc _)).turn Hc (Zn hX.out Hu.out zaJ);have tm:=hm.cell 1;have tj:=hm.lt;have tM:=hm.frozen;have H2:=hid hm;obtain⟨va2,vc2,Hz⟩:=Ze (show w8.ownsRow _ _ _ _ _ _ from hw);rw[show (bks++[BB]).length=bl+1 from by rw[List.length_append,h6.out];rfl]at Hz;subst Hz;clear hw Hc hT hm))
   have t9:Zb (fun q=>q=ob) w8 (w8.setCell ⟨ob,1,none⟩ (.slice va2 (bl+1) vc2)):=(Zb.refl (fun q=>q=ob) w8).setCell (p:=⟨ob,1,none⟩) rfl _;have tK:(bks++[BB]).length=bks.length+1:=by rw[List.length_append];rfl
   have HY:HeapIs (w8.setCell ⟨ob,1,none⟩ (.slice va2 (bl+1) vc2)) ob #[.int .i64 params,.slice va2 (bl+1) vc2] 101:=H2.out.set 1 _;have H0:OwnRow mbcells 7 135 w0.heap.size w8 (.slice va2 (bl+1) vc2) (bks++[⟨phs,.slice va pl vc,m5.l,m5.lv,⟨eop,ea,eb,eto,.slice ta eto.length tc,eimm⟩⟩]):=by
    rw[HU.out,tv.out,←tH.out];exact tz.out
   exact tD.out (n-(b+1)) _ _ zaK ⟨b+1,_,_,rfl,zaK,(XE rfl rfl zf0),hi.out.next (mI:=⟨at_,next,[],.slice none 0 0,w0.heap.size⟩) HK.out HP.out Hw.out T3.out ⟨h4.out.1,h4.out.2.1,h4.out.2.2,rfl,rfl,rfl⟩ hr.out hM.out H6.out H5.out tF.out h0.out.2 h0.out.1 T7.out ((Since.refl _).alloc _) tx.out tA.out H0 t9 HY⟩
  ·obtain rfl:n=b:=zaK
   go_wp2_with fail
   exact HQ.out _ _ bks bkv (XE rfl rfl zf0) hi.out
def MFnNew (w w':World) (g:Vg):Prop:=(∀ q,g.bv.ownBlock=some q→w.heap.size≤q∧q<w'.heap.size)∧∀ b∈g.blocks,JS (fun q=>q<w.heap.size) w' b
def Kn (N:Int) (v:Value) (w:World):Prop:=∃ x:Int,v=.int .i64 x∧0≤x∧x≤N
theorem Kn.stable (N:Int):ZH (Kn N):=fun v w w' h s=>h
def Qe (N:Int) (sv v:Value) (w:World):Prop:=∃ x:Int,v=.agg #[sv,.int .i64 0,.int .i64 x,.slice none 0 0]∧0≤x∧x≤N
theorem Qe.stable (N:Int) (sv:Value):ZH (Qe N sv):=fun v w w' h s=>h
def JG (N:Int) (w0:World) (sv v:Value) (w:World):Prop:=∃ (q:Nat) (x:Int),v=.pointer (some ⟨q,0,none⟩)∧(0≤x∧x≤N)∧w0.heap.size≤q∧HeapIs w q #[sv,.int .i64 0,.int .i64 x,.slice none 0 0] 172
theorem JG.stable (N:Int) (w0:World) (sv:Value):ZH (JG N w0 sv):=fun v w w' ⟨q,x,h1,h2,h3,h4⟩ s=>⟨q,x,h1,h2,h3,h4.keep s⟩
theorem MadeF.fnFew {f : FnV} (h:MadeF f):Qh 700 f.blocks:=
 ⟨by have:=h.blocks;omega,fun b hb=>⟨by have:=(h.phis b hb).1;omega,fun p hp=>⟨((h.phis b hb).2 p hp).1,by have:=((h.phis b hb).2 p hp).2.1;omega⟩⟩,fun b hb=>⟨by have h1:=h.total;have h2:=Xf (List.mem_map.2 ⟨b,hb,rfl⟩:b.ins.length∈f.blocks.map fun b=>b.ins.length);omega,h.ins b hb⟩⟩
theorem Ze0 (f:FnV) (sv:Value) (l:List Int) (w:World) (hf:FnIn w f) (hA:MadeF f) (hJ:Zco w f) (hC:Zd w sv l∧∀ q,sv.ownBlock=some q→q<w.heap.size) :
  Calls prog 80 #[fv f,sv] w (fun e w'=>∃ g:Vg,e=.returned (mfv g)∧Vw w' g∧Zai g∧Since w w'∧MFnNew w w' g):=by
 obtain⟨params,fb,bv⟩:=f;obtain⟨n,hg⟩:∃ n,fb.length=n:=⟨_,rfl⟩
 have hG:1≤n∧n≤9:=by rw[←hg];exact hA.blocks
 obtain⟨FB,foff,fbc,rfl⟩:∃ FB foff fbc,bv=.slice (some ⟨FB,foff,none⟩) n fbc:=by
  rcases (show RowIn fbcells 6 FBlkIn w bv fb from hf) with ⟨a,_,h2⟩|⟨B,off,cap,h1,_⟩
  ·rw[h2]at hg;simp at hg;omega
  ·exact⟨B,off,cap,by rw[h1,hg]⟩
 obtain⟨sa,sc,hv⟩:=Zc hC.1;obtain⟨sl,hF⟩:∃ x,l.length=x:=⟨_,rfl⟩
 rw[hF]at hv;subst hv;have hO:=hid hf;have hB:=hid hA;have hZ:=hid hJ;have hV:=hid hC;have hY:=hid hg;have hm:=zH (0≤params∧params≤4) hA.params;clear hf hA hJ hC hF hg;unfold fv;dsimp only;go_enter func80,ntmps80
 go_upto_region 1 with fail
 obtain⟨w1,he⟩:∃ z,z=(w.alloc (.cells #[.int .i64 params,.slice (some ⟨FB,foff,none⟩) n fbc] 109)).alloc (.cells #[.int .i64 0,.slice none 0 0] 101):=⟨_,rfl⟩
 have hN:=zH (Since w w1) (by rw[he];exact ((Since.refl w).alloc _).alloc _)
 obtain⟨xb,hp⟩:∃ z,z=w.heap.size:=⟨_,rfl⟩
 obtain⟨rb,hy⟩:∃ z,z=w.heap.size+1:=⟨_,rfl⟩
 have hE:=zH (HeapIs w1 xb #[.int .i64 params,.slice (some ⟨FB,foff,none⟩) n fbc] 109) (by rw[he,hp];exact (HeapIs.new _ _ _).keep ((Since.refl _).alloc _))
 have hX:=hid (show HeapIs w1 rb #[.int .i64 0,.slice none 0 0] 101 from by
  rw[he,hy];have h9:=HeapIs.new (w.alloc (.cells #[.int .i64 params,.slice (some ⟨FB,foff,none⟩) n fbc] 109)) #[.int .i64 0,.slice none 0 0] 101;rw[show (w.alloc (.cells #[.int .i64 params,.slice (some ⟨FB,foff,none⟩) n fbc] 109)).heap.size=w.heap.size+1 from by simp]at h9;exact h9)
 rw[←he,←hy,←hp];have hM:=zH (xb=w.heap.size∧rb=w.heap.size+1∧w1.heap.size=w.heap.size+2) ⟨hp,hy,by rw[he];simp⟩;clear he hp hy;refine Zh 8 rfl zaC zaC zaC zaJ
  [Is (.slice sa sl sc),Is (.agg #[.int .i64 params,.slice (some ⟨FB,foff,none⟩) n fbc]),Kn 700,Is (.pointer (some ⟨xb,0,none⟩)),Is (.int .i64 params),Kn 700,Qe 700 (.slice sa sl sc),JG 700 w1 (.slice sa sl sc)]
  (by repeat (first | exact trivial | refine⟨Is.stable _,?_⟩ | refine⟨Kn.stable _,?_⟩ | refine⟨Qe.stable _ _,?_⟩ | refine⟨JG.stable _ _ _,?_⟩)) ⟨?_,?_,?_,?_,?_,?_,?_,?_,trivial⟩ ?_
 rotate_right
 ·intro vs w2 hs hk;revert hk;refine zs0 ?_;intro hk
  obtain⟨kb,x,h7,hx,hH,hI⟩:JG 700 w1 (.slice sa sl sc) (vs 7) w2:=by exact hk.2.2.2.2.2.2.2.1
  simp only[h7];have ho:=hid (hE.out.keep hs);have hQ:=hid (hX.out.keep hs);have hR:=hid hI;have hW:=hid (hN.out.trans hs);have HZ:=hid (And.intro hH (And.intro hM.out hs.size));have hU:=ho.out.cell 0;have hT:=ho.out.lt;clear hk hs hI hH;go_upto_block 0 with fail
  have hn:w.heap.size≤xb∧w.heap.size≤rb∧xb<w1.heap.size∧rb<w1.heap.size∧xb≠rb:=by have:=hM.out;omega
  obtain⟨w4,hw⟩:∃ z,z=w2.alloc (.cells #[.int .i64 params,.slice none 0 0] 101):=⟨_,rfl⟩
  have hi:Since w2 w4:=by rw[hw];exact (Since.refl _).alloc _
  obtain⟨ob,hD⟩:∃ z,z=w2.heap.size:=⟨_,rfl⟩
  rw[←hw,←hD];have hb:OfS w xb ob rb kb n params (.slice (some ⟨FB,foff,none⟩) n fbc) (.slice sa sl sc) fb 0 [] (.slice none 0 0) w4:=by
   have h1:=HZ.out;refine⟨ho.out.keep hi,by rw[hw,hD];exact HeapIs.new _ _ _,hQ.out.keep hi,⟨0,x,.slice none 0 0,hR.out.keep hi,Nat.zero_le _,hx.1,zaK⟩,hW.out.trans hi,⟨zaK,zaK,hn.2.1,hn.1⟩,zaK,OwnRow.nil _ _ _ _ _,fun z hz=>(by cases hz),rfl,Nat.zero_le _⟩
  have ha:=hid hb;clear hn hw hi hD hb hx hU hT;refine ZcO w (.slice sa sl sc) l params fb xb rb kb ob FB foff n fbc _ _ _ (XE rfl rfl zf0) hO.out hZ.out hB.out hY.out hG hV.out ha.out ?_;clear ha;intro a1 w5 bks bkv hf hb;obtain⟨u,hL,hu⟩:=Xh hf;obtain⟨g1,g2,s2,s4,s5,s6,g3⟩:=hf;have e2:=hu 2 _ s2;have e4:=hu 4 _ s4;have e5:=hu 5 _ s5;have e6:=hu 6 _ s6;rw[e2,e4,e5,e6]at hL;subst hL;clear hu g1 g2 g3 e2 s2 e4 s4 e5 s5 e6 s6;have ha:=hid hb;obtain⟨ba,bc,hK⟩:=OwnRow.shape hb.row;rw[hb.len]at hK;subst hK;have hh:=hb.out;have Hf:=hh.cell 0;have He:=hh.cell 1;have Hc:=hh.lt;have hd:=hb.res;have Ha:=hd.cell 0;have h8:=hd.cell 1;have h0:=hd.lt;have h4:=hd.frozen;clear hb hh hd;go_wp2_with fail
  have hP:=(ha.out.res.set 0 (.int .i64 params)).set 1 (.slice ba n bc);try simp only[Exit.inBlock,Exit.then]
  refine bodyPost_ret (results_cell_row rfl _ _ rb 101 #[.int .i64 params,.slice ba n bc] (0,0) _ rfl hP underlying101 rfl zaF) rfl ?_;have t:Zb (fun q=>q=rb) w5 ((w5.setCell ⟨rb,0,none⟩ (.int .i64 params)).setCell ⟨rb,1,none⟩ (.slice ba n bc)):=((Zb.refl (fun q=>q=rb) w5).setCell (p:=⟨rb,0,none⟩) rfl _).setCell (p:=⟨rb,1,none⟩) rfl _;refine⟨⟨params,bks,.slice ba n bc⟩,rfl,Z0 J2 (Zg ha.out.row t fun q hq e=>Zn ha.out.row ha.out.res zaJ (e ▸ hq)) fun z hz=>((ha.out.each z hz).1).turn (ha.out.each z hz).2.1 t (fun q _ e=>.inr (.inr (.inr (.inl e)))),⟨hm.out,by show 1≤bks.length∧bks.length≤9;rw[ha.out.len];exact hG,fun z hz=>?_,?_⟩,t.toSince ha.out.old (fun q hq e=>by have:=ha.out.low;omega),fun q hq=>⟨(World.ownsRow.lt (show w5.ownsRow _ _ _ _ _ _ from ha.out.row) q hq).1,Nat.lt_of_lt_of_le (World.ownsRow.lt (show w5.ownsRow _ _ _ _ _ _ from ha.out.row) q hq).2 t.size⟩,fun z hz=>(ha.out.each z hz).2.1.mono (fun q e=>.inl (.inl e)) t.size⟩
  ·show Qf bks.length z
   rw[ha.out.len];exact (ha.out.each z hz).2.2
  ·have h1:=ha.out.total;have h2:=Ju fb n;have h3:YY fb≤700:=hB.out.total;show Xs bks≤3600
   omega
 all_goals
  intro vs w2 hs hk _;revert hk;refine zs1 ?_;intro hk
 ·exact kH
 ·have hj:HeapIs w2 xb #[.int .i64 params,.slice (some ⟨FB,foff,none⟩) n fbc] 109:=hE.out.keep hs;clear hk;refine wpList_load_row rfl _ _ rfl xb rfl 109 _ (0,0) _ hj underlying109 rfl zaF ?_;exact kH
 ·clear hk;go_wp2_with fail
  refine (Zds 700 params fb (.slice (some ⟨FB,foff,none⟩) n fbc) w2 (FnIn.keep hO.out (hN.out.trans hs)) hB.out.fnFew ⟨hm.out.1,by have:=hm.out.2;omega,by have:=hm.out.2;omega⟩ zaJ (by have:=hB.out.blocks;exact this.2)).mono ?_;rintro e w3 ⟨x,rfl,hx,hS⟩;go_wp2
  exact⟨_,rfl,⟨x,rfl,hx⟩,hS⟩
 ·exact kH
 ·have hj:HeapIs w2 xb #[.int .i64 params,.slice (some ⟨FB,foff,none⟩) n fbc] 109:=hE.out.keep hs;have hc:=hj.cell 0;have hl:=hj.lt;clear hj;exact kH
 ·obtain⟨x,h2,ht,hr⟩:Kn 700 (vs 2) w2:=by exact hk.1
  simp only[h2];clear hk;have Hb:=hm.out;go_wp2
  all_goals exact⟨_,rfl,⟨_,rfl,zaK,zaK⟩,.refl _⟩
 ·obtain⟨x,h5,ht,hr⟩:Kn 700 (vs 5) w2:=by exact hk.2.1
  simp only[h5];clear hk;go_wp2
  exact⟨_,rfl,⟨x,rfl,ht,hr⟩,.refl _⟩
 ·obtain⟨x,h6,ht,hr⟩:Qe 700 (.slice sa sl sc) (vs 6) w2:=by exact hk.1
  simp only[h6];have hz:=hs.size;clear hk;go_wp2
  exact⟨_,rfl,⟨_,x,rfl,⟨ht,hr⟩,hz,HeapIs.new _ _ _⟩,(Since.refl _).alloc _⟩
theorem Zc3 (sv:Value) (l:List Int) (w:World) (hs:Zd w sv l) (hy:∀ q,sv.ownBlock=some q→q<w.heap.size) (hl:l.length≤1000) :
  Calls prog 51 #[sv] w (fun e w'=>∃ g:Vg,e=.returned (mfv g)∧Vw w' g∧Zai g∧Since w w'∧MFnNew w w' g):=by
 obtain⟨sa,sc,hv⟩:=Zc hs;obtain⟨sl,ho⟩:∃ x,l.length=x:=⟨_,rfl⟩
 rw[ho]at hv hl;subst hv;have HS:=hid hs;have hP:=hid hy;have hQ:=hid ho;clear hs ho hy;go_enter func51,ntmps51
 go_wp2_with fail
 obtain⟨w1,hd⟩:∃ z,z=(w.alloc (.cells #[.int .i64 0,.slice none 0 0] 101)).alloc (.cells #[] 3):=⟨_,rfl⟩
 obtain⟨rb,he⟩:∃ z,z=w.heap.size:=⟨_,rfl⟩
 have ha:=zH (HeapIs w1 rb #[.int .i64 0,.slice none 0 0] 101) (by rw[hd,he];exact (HeapIs.new _ _ _).keep ((Since.refl _).alloc _))
 have hH:=zH (Since w w1) (by rw[hd];exact ((Since.refl w).alloc _).alloc _)
 have hI:=hid (show w1.ownsRow (w.heap.size+1) 3 1 (.slice (some ⟨w.heap.size+1,0,none⟩) 0 0) 0 (([]:List Int).map (Value.int .i64)) from by
  have h9:=HeapIs.new (w.alloc (.cells #[.int .i64 0,.slice none 0 0] 101)) #[] 3;rw[show (w.alloc (.cells #[.int .i64 0,.slice none 0 0] 101)).heap.size=w.heap.size+1 from by simp,←hd]at h9;exact⟨rfl,.inr ⟨w.heap.size+1,0,#[],rfl,Nat.le_refl _,h9,by simp,by unfold maxLen;omega,by simp,by simp⟩⟩)
 have HZ:=zH (rb=w.heap.size∧w1.heap.size=w.heap.size+2) ⟨he,by rw[hd];simp⟩;rw[←hd];clear hd he
 go_loopw [3,4] (fun ov iv wr=>∃ (k:Nat) (v:Value) (xs:List Int),ov=v∧iv=.int .i64 ((sl:Int)-1-k)∧k≤sl∧xs.length=k∧wr.ownsRow (w.heap.size+1) 3 1 v k (xs.map (Value.int .i64))∧Since w wr∧HeapIs wr rb #[.int .i64 0,.slice none 0 0] 101∧w.heap.size+2≤wr.heap.size) (fun _ iv _=>(intOf iv+1).toNat)
 case atStart=>exact⟨0,_,[],rfl,by simp,Nat.zero_le _,rfl,hI.out,hH.out,ha.out,by have:=HZ.out;omega⟩
 case round =>
  obtain⟨k,v,xs,rfl,rfl,hk,hx,hj,hs,he,hz⟩:=hrel;obtain⟨va,vc,hv⟩:=Ze hj;subst hv;have HO:=hid hj;have hi:=hid hs;have HR:=hid he;have hh:=hid hx;clear hj hs he hx hI hH ha;by_cases hK:k<sl
  ·obtain⟨r,hr⟩:∃ r,l[sl-1-k]? = some r:=⟨_,List.getElem?_eq_getElem (by rw[hQ.out];omega)⟩
   obtain⟨SB,soff,rfl,Hb,hL⟩:∃ b off,sa=some ⟨b,off,none⟩∧b<wr.heap.size∧wr.cell? ⟨b,off+(sl-1-k),none⟩=some (.int .i64 r):=by
    rcases HS.out.keep hi.out with ⟨_,_,h2⟩|⟨b,off,cap,h1,_,_,h4,h5⟩
    ·rw[h2]at hr;cases hr
    ·injection h1 with e1 e2 e3
     exact⟨b,off,e1,h4,h5 _ r hr⟩
   have hZ:wr.cell? ⟨SB,soff+((sl:Int)-1-(k:Int)).toNat,none⟩=some (.int .i64 r):=by rw[show ((sl:Int)-1-(k:Int)).toNat=sl-1-k from by omega];exact hL
   have hG:0≤(sl:Int)-1-(k:Int):=zaK
   have Ha:(sl:Int)-1-(k:Int)<(sl:Int):=zaK
   have K1:=zH ((wr.alloc (.cells #[.int .i64 r] 3)).ownsRow (w.heap.size+1) 3 1 (.slice va k vc) xs.length (xs.map (Value.int .i64))) (Zv (by rw[hh.out];exact HO.out) ((Since.refl _).alloc _));have K2:=zH (xs.length + [r].length≤1000000) (by rw[hh.out];simp;omega);have K3:=zH (w.heap.size+1≤(wr.alloc (.cells #[.int .i64 r] 3)).heap.size) zaE;have K4:=zH (HeapIs (wr.alloc (.cells #[.int .i64 r] 3)) rb #[.int .i64 0,.slice none 0 0] 101) (HR.out.keep ((Since.refl _).alloc _));have K5:=zH (¬ (Value.slice va k vc).ownBlock=some rb) (Zn HO.out HR.out zaJ);clear hr;go_wp2_with (refine Zl (base:=w.heap.size+1) .i64 rfl _ _ 22 rfl 3 (.int .i64 0) 8 underlying22 Tryz.info3 rfl zaJ (.slice va k vc) _ xs [r] rfl rfl K1.out (Ym _ _ _) K2.out K3.out ?_;intro v6 w6 hf hm hw;rw[List.length_append,hh.out]at hf;have hU:=zH (w6.ownsRow (w.heap.size+1) 3 1 v6 (k+1) ((xs++[r]).map (Value.int .i64))) hf;have hT:=hid (K4.out.turn hm K5.out);have hR:=zH (Since w w6) (hm.toSince (hi.out.trans ((Since.refl _).alloc _)) fun q hq e=>by have:=(World.ownsRow.lt HO.out q e).1;omega);have hN:=zH (w.heap.size+2≤w6.heap.size) (by have:=hm.size;simp at this;omega);clear hf hm hw)
   go_roundw
   case rel=>exact⟨k+1,_,xs++[r],by trivial,by (first | go_num | (congr 1;push_cast;omega)),zaK,by rw[List.length_append,hh.out];rfl,hU.out,hR.out,hT.out,hN.out⟩
   case measure=>simp[intOf];omega
  ·obtain rfl:sl=k:=zaK
   have hG:¬ 0≤(sl:Int)-1-(sl:Int):=zaK
   go_wp2_with fail
   refine (ZdR (.slice sa sl sc) l wr (HS.out.keep hi.out) (fun q hq=>Nat.lt_of_lt_of_le (hP.out q hq) hi.out.size)).mono ?_
   rintro e w3 ⟨f,rfl,hE,hB,hn,hF⟩;have hX:=hid hE;have hW:=hid hB;have hY:=hid hF;have hu:=hid hn;have hO:=zH (Zd w3 (.slice va sl vc) xs∧∀ q,(Value.slice va sl vc).ownBlock=some q→q<w3.heap.size) ⟨by have h9:=ZB (show wr.ownsRow (w.heap.size+1) 3 1 (.slice va sl vc) xs.length (xs.map (Value.int .i64)) from by rw[hh.out];exact HO.out);exact h9.keep hn,fun q hq=>Nat.lt_of_lt_of_le (World.ownsRow.lt HO.out q hq).2 hn.size⟩
   clear hE hB hF hn hk hG hK;go_wp2_with fail
   refine (Ze0 f (.slice va sl vc) xs w3 hX.out hW.out hY.out hO.out).mono ?_;rintro e w4 ⟨g,rfl,hg,hA,hp,ht⟩;obtain⟨gp,gb,gbv⟩:=g;obtain⟨ga,gc,hC,_⟩:=RowIn.shape (show RowIn mbcells 7 MBlkIn w4 gbv gb from hg);obtain⟨gl,hD⟩:∃ z,gb.length=z:=⟨_,rfl⟩
   rw[hD]at hC;subst hC;unfold mfv;dsimp only;have ha:=zH (HeapIs w4 w.heap.size #[.int .i64 0,.slice none 0 0] 101) (by rw[←HZ.out.1];exact HR.out.keep (hu.out.trans hp))
   have h8:=ha.out.cell 0;have h7:=ha.out.cell 1;have h3:=ha.out.lt;have h6:=ha.out.frozen;have HG:=hid hg;have hV:=hid hA;have hS:=hid hp;have hc:=hid ht;clear hg hA hp ht hD;go_wp2_with fail
   have hJ:=(ha.out.set 0 (.int .i64 gp)).set 1 (.slice ga gl gc);try simp only[Exit.inBlock,Exit.then]
   refine bodyPost_ret (results_cell_row rfl _ _ w.heap.size 101 #[.int .i64 gp,.slice ga gl gc] (0,0) _ rfl hJ underlying101 rfl zaF) rfl ?_;have t:Zb (fun q=>q=w.heap.size) w4 ((w4.setCell ⟨w.heap.size,0,none⟩ (.int .i64 gp)).setCell ⟨w.heap.size,1,none⟩ (.slice ga gl gc)):=((Zb.refl (fun q=>q=w.heap.size) w4).setCell (p:=⟨w.heap.size,0,none⟩) rfl _).setCell (p:=⟨w.heap.size,1,none⟩) rfl _;have h0:w.heap.size+2≤w3.heap.size:=Nat.le_trans hz hu.out.size;refine⟨⟨gp,gb,.slice ga gl gc⟩,rfl,RowIn.turn (show RowIn mbcells 7 MBlkIn w4 (.slice ga gl gc) gb from HG.out) t (fun q hq e=>by have:=(hc.out.1 q hq).1;omega) (fun b hb hM=>hM.turn (hc.out.2 b hb) t fun q _ e=>by omega),hV.out,t.toSince ((hi.out.trans hu.out).trans hS.out) (fun q hq e=>by omega),fun q hq=>⟨by have:=(hc.out.1 q hq).1;omega,Nat.lt_of_lt_of_le (hc.out.1 q hq).2 t.size⟩,fun b hb=>(hc.out.2 b hb).mono (fun q e=>.inl zaK) t.size⟩
theorem Zb3 (sv:Value) (l:List Int) (w:World) (hs:Zd w sv l) (ho:∀ q,sv.ownBlock=some q→q<w.heap.size) (hl:l.length≤1000) :
  Calls prog 21 #[sv] w (fun e w'=>∃ p:Z2,e=.returned (pv p)∧(4≤p.k∧p.k≤16)∧YO w.heap.size w' p∧Since w w'):=by
 obtain⟨sa,sc,hv⟩:=Zc hs;obtain⟨sl,hf⟩:∃ x,l.length=x:=⟨_,rfl⟩
 rw[hf]at hv hl;subst hv;have HS:=hid hs;have hG:=hid ho;have hy:=hid hf;clear hs hf ho;go_enter func21,ntmps21
 go_upto_if 6 with fail
 obtain⟨rb,hb⟩:∃ z,z=w.heap.size:=⟨_,rfl⟩
 obtain⟨w1,hd⟩:∃ z,z=w.alloc (.cells #[.int .i64 0,.int .i64 0,.int .i64 0,.slice none 0 0] 27):=⟨_,rfl⟩
 have hI:=zH (HeapIs w1 rb #[.int .i64 0,.int .i64 0,.int .i64 0,.slice none 0 0] 27) (by rw[hd,hb];exact HeapIs.new _ _ _);have he:=zH (Since w w1) (by rw[hd];exact (Since.refl w).alloc _)
 have hF:=zH (rb=w.heap.size∧w1.heap.size=w.heap.size+1) ⟨hb,by rw[hd];simp⟩;rw[←hd,←hb];clear hd hb;refine wp_cut (fun a9 wz=>(∃ kk:Int,(4≤kk∧kk≤16)∧∃ u4 u5 u6 u7 u8 u9 u10 u11 u12 u13 u14 u15 u16 u17,a9=⟨#[.slice sa sl sc,undef,.pointer (some ⟨rb,0,none⟩),.int .i64 kk,u4,u5,u6,u7,u8,u9,u10,u11,u12,u13,u14,u15,u16,u17],[]⟩)∧wz=w1) ?_ ?_
 case refine_2 =>
  intro J K' hJ hx;have hB:=hid hJ;have hA:=hid hx;clear hJ hx;by_cases h0:0<sl
  ·obtain⟨r,hr⟩:∃ r,l[0]? = some r:=⟨_,List.getElem?_eq_getElem (by rw[hy.out];exact h0)⟩
   obtain⟨SB,soff,rfl,hY,hu⟩:=YI (show Zy .i64 w1 (.slice sa sl sc) l from HS.out.keep he.out) hr
   clear hr;have hX:=Int.tmod_lt_of_pos r (show (0:Int)<13 by omega)
   have hW : -13<r.tmod 13:=Int.lt_tmod_of_pos r zaK;have hO:w1.cell? ⟨SB,soff,none⟩=some (.int .i64 r):=hu;have hP:0≤(r.tmod 13+13) % 13∧(r.tmod 13+13) % 13<13:=⟨Int.emod_nonneg _ zaK,Int.emod_lt_of_pos _ zaK⟩;clear hu;go_wp2_with fail
   refine hA.out _ _ (Met.intro (hB.out _ _ ⟨⟨_,?_,_,_,_,_,_,_,_,_,_,_,_,_,_,_,rfl⟩,rfl⟩));omega
  ·go_wp2_with fail
   refine hA.out _ _ (Met.intro (hB.out _ _ ⟨⟨4,zaK,_,_,_,_,_,_,_,_,_,_,_,_,_,_,rfl⟩,rfl⟩))
 intro a9 wz hc;obtain⟨⟨kk,hE,u4,u5,u6,u7,u8,u9,u10,u11,u12,u13,u14,u15,u16,u17,ha⟩,hz⟩:=hc;subst ha;have e9:=hz.symm;clear hz;subst e9;go_wp2_with fail
 refine (Zc3 (.slice sa sl sc) l w1 (HS.out.keep he.out) (fun q hq=>Nat.lt_of_lt_of_le (hG.out q hq) he.out.size) (by rw[hy.out];exact hl)).mono ?_
 rintro e w2 ⟨g,rfl,hg,ht,hp,hD⟩;have hN:=hid hg;have hM:=hid ht;have hm:=hid hp;clear hg ht hp hD;go_wp2_with fail
 refine (Zba g kk w2 hN.out hM.out).mono ?_;rintro e w3 ⟨p,rfl,hi,hj,hh⟩;obtain⟨pp,pk,ps,pb,pbv⟩:=p;obtain⟨ba,bc,hk⟩:=OwnRow.shape hj.row;dsimp only at hk hi;obtain⟨bl,hw⟩:∃ z,pb.length=z:=⟨_,rfl⟩
 rw[hw]at hk;subst hk;have hK:=hid hi;have hL:=hid (hj.low (Nat.le_trans he.out.size hm.out.size));have hH:=hid ((he.out.trans hm.out).trans hh);have hb:=hI.out.keep (hm.out.trans hh);have hn:=hid hb;have hV:=hb.cell 0;have hU:=hb.cell 1;have hT:=hb.cell 2;have hS:=hb.cell 3;have hQ:=hb.lt;have hR:=hb.frozen;unfold pv;dsimp only;clear hi hj hh hb hw;go_wp2_with fail
 have hC:=(((hn.out.set 0 (.int .i64 pp)).set 1 (.int .i64 pk)).set 2 (.int .i64 ps)).set 3 (.slice ba bl bc);try simp only[Exit.inBlock,Exit.then]
 refine bodyPost_ret (results_cell_row rfl _ _ rb 27 #[.int .i64 pp,.int .i64 pk,.int .i64 ps,.slice ba bl bc] (0,0) _ rfl hC underlying27 rfl zaF) rfl ?_;have t:Zb (fun q=>q=rb) w3 ((((w3.setCell ⟨rb,0,none⟩ (.int .i64 pp)).setCell ⟨rb,1,none⟩ (.int .i64 pk)).setCell ⟨rb,2,none⟩ (.int .i64 ps)).setCell ⟨rb,3,none⟩ (.slice ba bl bc)):=((((Zb.refl (fun q=>q=rb) w3).setCell (p:=⟨rb,0,none⟩) rfl _).setCell (p:=⟨rb,1,none⟩) rfl _).setCell (p:=⟨rb,2,none⟩) rfl _).setCell (p:=⟨rb,3,none⟩) rfl _;exact⟨⟨pp,pk,ps,pb,.slice ba bl bc⟩,rfl,by show 4≤pk∧pk≤16;rw[hK.out];exact hE,hL.out.turn t (Kin.box hn.out) zaJ zaJ zaJ,t.toSince hH.out fun q hq e=>by have:=hF.out;omega⟩
theorem YO.good {B : Nat} {w : World} {p : Z2} (h:YO B w p) (hk:4≤p.k∧p.k≤16):PrgGood p:=
 ⟨⟨h.params.1,h.params.2.1⟩,hk,⟨by have:=h.params;omega,h.slots⟩,h.blocks,h.total,fun b hb=>⟨fun x hx=>((h.each b hb).each x hx).good,(h.each b hb).fin⟩,fun b hb x hx=>((h.each b hb).each x hx).src⟩
theorem ZbE (sv:Value) (l:List Int) (w:World) (h:Zd w sv l) (hc:∀ q,sv.ownBlock=some q→q<w.heap.size) :
  Calls prog 22 #[sv] w (fun e w'=>∃ v,e=.returned v∧w'=w∧Zd w v (l.take 300)∧∀ q,v.ownBlock=some q→q<w.heap.size):=by
 obtain⟨sa,sc,hv⟩:=Zc h;obtain⟨sl,ha⟩:∃ x,l.length=x:=⟨_,rfl⟩
 rw[ha]at hv;subst hv;have H:=hid h;have hd:=hid hc;have hb:=hid ha;have he:sl≤sc∧sc≤maxLen:=by
  rcases h with ⟨_,h1,_⟩|⟨b,off,cap,h1,h2,h3,_,_⟩
  ·cases h1;exact⟨Nat.zero_le _,Nat.zero_le _⟩
  ·cases h1;omega
 clear h hc ha;by_cases hf:300<sl
 ·obtain⟨b,off,rfl⟩:∃ b off,sa=some ⟨b,off,none⟩:=by
   rcases H.out with ⟨_,h1,_⟩|⟨b,off,cap,h1,_⟩
   ·cases h1;omega
   ·cases h1;exact⟨_,_,rfl⟩
  go_enter func22,ntmps22
  go_wp2_with fail
  go_ret
  exact⟨.slice (some ⟨b,off,none⟩) 300 sc,rfl,rfl,ZcU (by rw[hb.out];exact H.out) 300 (by rw[hb.out];omega),fun q hq=>hd.out q hq⟩
 ·go_enter func22,ntmps22
  go_wp2_with fail
  go_ret
  exact⟨_,rfl,rfl,by rw[List.take_of_length_le (by rw[hb.out];omega)];exact H.out,hd.out⟩
theorem OwnRow.low0 {α:Type} {f : α→List Value} {sz:Nat} {e : TypeId} {B : Nat} {w : World} {v : Value} {l : List α} (h:OwnRow f sz e B w v l):OwnRow f sz e 0 w v l:=XX h (Nat.zero_le _)
def Zck (l:List Int) (v:Value) (w:World):Prop:=Zd w v (l.take 300)
theorem Zck.stable (l:List Int):ZH (Zck l):=fun v w w' h s=>Zy.keep h s
def Zd4 (p:Z2) (v:Value) (w:World):Prop:=∃ q:Z2,v=pv q∧OwnRow blcells 6 34 0 w q.bv q.blocks∧(∀ x∈q.blocks,OwnRow plcells 9 38 0 w x.insv x.ins)∧VN p q
theorem Zd4.stable (p:Z2):ZH (Zd4 p):=fun v w w' ⟨q,h1,h2,h3,h4⟩ s=>⟨q,h1,h2.keep s,fun x hx=>(h3 x hx).keep s,h4⟩
def Zd7 (B:Nat) (v:Value) (w:World):Prop:=∃ b,v=.pointer (some ⟨b,0,none⟩)∧B≤b∧HeapIs w b #[.int .i64 0,.int .i64 0,.int .i64 0,.slice none 0 0] 27
theorem Zd7.stable (B:Nat):ZH (Zd7 B):=fun v w w' ⟨b,h1,h2,h3⟩ s=>⟨b,h1,h2,h3.keep s⟩
theorem Zfd (n:Int):bits .and .i64 n 65535=n % 65536:=by
 have h:(BitVec.ofInt 64 65535).toNat=2 ^ 16-1:=zaJ
 have key:(BitVec.ofInt 64 n &&& BitVec.ofInt 64 65535).toNat=(n % ((2 ^ 64:Nat):Int)).toNat % 2 ^ 16:=by
  rw[BitVec.toNat_and,BitVec.toNat_ofInt,h,Nat.and_two_pow_sub_one_eq_mod]
 show IntKind.i64.wrap ((BitVec.ofInt 64 n &&& BitVec.ofInt 64 65535).toNat:Nat)=n % 65536
 rw[key,IntKind.wrap_i64];omega
end Go.Proofs.YtimpddecdodddaaGreat
