import Derived.Test.YtimpddecdodddaaGreatSt37
namespace Go.Proofs.YtimpddecdodddaaGreat
open Go.Proofs.Tryz Go.RowKit Go.Lib
set_option linter.unusedVariables false
set_option maxHeartbeats 4000000
set_option maxRecDepth 1000000
theorem jP {P:Prop} (h:P:=by
 have hc:=hb.cell 0;have hl:=hb.lt;clear hb;go_wp2
 exact⟨_,rfl,rfl,.refl _⟩):P:=h
structure PhSt (wB:World) (nb:Nat) (kphis:List YW) (i:Nat) (phs:List YW) (phv:Value) (w:World):Prop where
 box:HeapIs w nb #[phv,.slice none 0 0,.int .i64 0,.int .i64 0,.int .i64 0,.slice none 0 0,.int .i32 0] 135
 row:OwnRow fpcells 2 138 wB.heap.size w phv phs
 ins:∀ p∈phs,OwnRow prcells 2 141 wB.heap.size w p.inv p.ins
 same:phs.map (fun p=>(p.dst,p.ins))=(kphis.take i).map (fun p=>(p.dst,p.ins))
 old:Since wB w
 low:wB.heap.size≤nb
theorem PhSt.keep {wB w w':World} {nb i:Nat} {kphis phs:List YW} {phv:Value} (h:PhSt wB nb kphis i phs phv w) (s:Since w w'):PhSt wB nb kphis i phs phv w':=⟨h.box.keep s,h.row.keep s,fun p hp=>(h.ins p hp).keep s,h.same,h.old.trans s,h.low⟩
theorem PhSt.len {wB w:World} {nb i:Nat} {kphis phs:List YW} {phv:Value} (h:PhSt wB nb kphis i phs phv w) (hi:i≤kphis.length):phs.length=i:=by
 have h1:=congrArg List.length h.same;simp only[List.length_map,List.length_take]at h1;omega
theorem ZcL {α:Type} {f : α→List Value} {sz b1 b2:Nat} {e : TypeId} {w : World} {v : Value} {l : List α} (h:OwnRow f sz e b1 w v l) (hb:b2≤b1):OwnRow f sz e b2 w v l:=by
 exact yM
def Wg (w0:World) (xs:List (Int × Int)) (v:Value) (w:World):Prop:=OwnRow prcells 2 141 w0.heap.size w v xs
theorem Wg.stable (w0:World) (xs:List (Int × Int)):ZH (Wg w0 xs):=fun v w w' h s=>OwnRow.keep h s
def JF (w0:World) (d:Int) (xs:List (Int × Int)) (v:Value) (w:World):Prop:=∃ a c,v=.agg #[.int .i64 d,.slice a xs.length c]∧Wg w0 xs (.slice a xs.length c) w
theorem JF.stable (w0:World) (d:Int) (xs:List (Int × Int)):ZH (JF w0 d xs):=fun v w w' ⟨a,c,h1,h2⟩ s=>⟨a,c,h1,OwnRow.keep h2 s⟩
def VK (w0:World) (d:Int) (xs:List (Int × Int)) (v:Value) (w:World):Prop:=∃ q a c,v=.slice (some ⟨q,0,none⟩) 1 1∧HeapIs w q #[.int .i64 d,.slice a xs.length c] 138∧Wg w0 xs (.slice a xs.length c) w
theorem VK.stable (w0:World) (d:Int) (xs:List (Int × Int)):ZH (VK w0 d xs):=fun v w w' ⟨q,a,c,h1,h2,h3⟩ s=>⟨q,a,c,h1,h2.keep s,OwnRow.keep h3 s⟩
theorem PhSt.add {wB wa wb:World} {nb i:Nat} {kphis phs:List YW} {phv v':Value} {y p:YW} (h:PhSt wB nb kphis i phs phv wa) (hy:kphis[i]? = some y) (hp:p.dst=y.dst∧p.ins=y.ins) (hd:OwnRow prcells 2 141 wB.heap.size wa p.inv p.ins)
  (ha:OwnRow fpcells 2 138 wB.heap.size wb v' (phs++[p])) (t:Zb (fun q=>phv.ownBlock=some q) wa wb):PhSt wB nb kphis (i+1) (phs++[p]) v' (wb.setCell ⟨nb,0,none⟩ v'):=by
 have he:∀ q,phv.ownBlock=some q→wB.heap.size≤q:=fun q hq=>(World.ownsRow.lt h.row q hq).1
 have hc:HeapIs wb nb #[phv,.slice none 0 0,.int .i64 0,.int .i64 0,.int .i64 0,.slice none 0 0,.int .i32 0] 135:=h.box.turn t (fun e=>Zn h.row h.box zaJ e)
 have t2:Zb (fun q=>q=nb) wb (wb.setCell ⟨nb,0,none⟩ v'):=(Zb.refl (fun q=>q=nb) wb).setCell (p:=⟨nb,0,none⟩) rfl _;have hb:∀ z:YW,OwnRow prcells 2 141 wB.heap.size wa z.inv z.ins→OwnRow prcells 2 141 wB.heap.size (wb.setCell ⟨nb,0,none⟩ v') z.inv z.ins:=fun z hz=>by
  have h1:OwnRow prcells 2 141 wB.heap.size wb z.inv z.ins:=Zg hz t fun q hq e=>QN hz h.row zaJ q hq e
  exact Zg h1 t2 fun q hq e=>Zn h1 hc zaJ (e ▸ hq)
 refine⟨hc.set 0 v',Zg ha t2 fun q hq e=>Zn ha hc zaJ (e ▸ hq),fun z hz=>?_,?_,t2.toSince (t.toSince h.old fun k hk e=>by have:=he k e;omega) fun k hk e=>by have:=h.low;omega,h.low⟩
 ·rcases List.mem_append.1 hz with hz|hz
  ·exact hb z (h.ins z hz)
  ·rw[List.mem_singleton.1 hz];exact hb p hd
 ·rw[List.take_add_one,hy,List.map_append,List.map_append,h.same];simp[hp.1,hp.2]
theorem Zeo (w0 wB:World) (params:Int) (fb:List Zt) (k:Zt) (xb rb kb ob nb FB foff n fbc b:Nat) (a0:Act) (w1:World) (Q0:Exit→Act→World→Prop) (hN:FrO [(2,.pointer (some ⟨xb,0,none⟩)),(4,.pointer (some ⟨rb,0,none⟩)),(5,.pointer (some ⟨kb,0,none⟩)),(6,.pointer (some ⟨ob,0,none⟩)),(7,.int .i64 b),(8,.pointer (some ⟨nb,0,none⟩)),(9,.int .i64 (0:Nat))] a0)
  (hO:FnIn w0 ⟨params,fb,.slice (some ⟨FB,foff,none⟩) n fbc⟩) (hI:fb[b]? = some k) (Hs:n≤9) (Hu:b<n) (hx:Since w0 wB) (hb:HeapIs wB xb #[.int .i64 params,.slice (some ⟨FB,foff,none⟩) n fbc] 109) (Ha:k.phis.length≤3) (hM:∀ p∈k.phis,p.ins.length≤9) (he:PhSt wB nb k.phis 0 [] (.slice none 0 0) w1)
  (hQ:∀ a1 w2 phs phv,FrO [(2,.pointer (some ⟨xb,0,none⟩)),(4,.pointer (some ⟨rb,0,none⟩)),(5,.pointer (some ⟨kb,0,none⟩)),(6,.pointer (some ⟨ob,0,none⟩)),(7,.int .i64 b),(8,.pointer (some ⟨nb,0,none⟩))] a1→PhSt wB nb k.phis k.phis.length phs phv w2→Q0 .normal a1 w2):Code.wp prog (OCode [1,1,1,0,1,0,0,1,0,0,1,0,1]) Q0 a0 w1:=by
 obtain⟨u,hj,hu⟩:=Xh hN;obtain⟨g1,g2,s2,s4,s5,s6,s7,s8,s9,g3⟩:=hN;have e2:=hu 2 _ s2;have e4:=hu 4 _ s4;have e5:=hu 5 _ s5;have e6:=hu 6 _ s6;have e7:=hu 7 _ s7;have e8:=hu 8 _ s8;have e9:=hu 9 _ s9;rw[e2,e4,e5,e6,e7,e8,e9]at hj;subst hj;clear hu g1 g2 g3 e2 s2 e4 s4 e5 s5 e6 s6 e7 s7 e8 s8 e9 s9
 conv=>arg 2;whnf
 have HQ:=hid hQ;have Hq:=hid hO;have hW:=hid hx;have Hr:=hid hb;have Hm:=hid hI;clear hQ hO hx hb;obtain⟨kl,hB⟩:∃ z,k.phis.length=z:=⟨_,rfl⟩
 have ht:=hid hB;have Hp:=hid hM;rw[hB]at Ha;clear hB hI hM;go_wp2_with fail
 refine ZS (fun t ac wr=>∃ (i:Nat) (phs:List YW) (va:Option Addr) (vc:Nat),t=kl-i∧i≤kl∧FrO [(2,.pointer (some ⟨xb,0,none⟩)),(4,.pointer (some ⟨rb,0,none⟩)),(5,.pointer (some ⟨kb,0,none⟩)),(6,.pointer (some ⟨ob,0,none⟩)),(7,.int .i64 b),(8,.pointer (some ⟨nb,0,none⟩)),(9,.int .i64 i)] ac∧PhSt wB nb k.phis i phs (.slice va i vc) wr) kl ⟨0,[],none,0,rfl,Nat.zero_le _,(XE rfl rfl zf0),he⟩ ?_
 ·clear he;intro t a1 wr K hJ hK;have Hn:=hid hK;clear hK;obtain⟨i,phs,va,vc,rfl,hi,hf,he⟩:=hJ;obtain⟨u,hj,hu⟩:=Xh hf;obtain⟨g1,g2,s2,s4,s5,s6,s7,s8,s9,g3⟩:=hf;have e2:=hu 2 _ s2;have e4:=hu 4 _ s4;have e5:=hu 5 _ s5;have e6:=hu 6 _ s6;have e7:=hu 7 _ s7;have e8:=hu 8 _ s8;have e9:=hu 9 _ s9;rw[e2,e4,e5,e6,e7,e8,e9]at hj;subst hj;clear hu g1 g2 g3 e2 s2 e4 s4 e5 s5 e6 s6 e7 s7 e8 s8 e9 s9;have hD:=hid he;have hd:=FAt.of Hq.out Hm.out (hW.out.trans he.old) (Hr.out.keep he.old);obtain⟨pa,pc,hr,_⟩:=RowIn.shape (show RowIn fpcells 2 YJ wr k.phv k.phis from hd.blk.1);rw[ht.out]at hr;have h0:wr.cell? ⟨xb,1,none⟩=some (.slice (some ⟨FB,foff,none⟩) n fbc):=hd.box.cell 1;have hZ:=hd.box.lt;have hL:=hd.cell 0 zaJ;rw[show (fbcells k)[0]? = some k.phv from rfl,hr,Nat.add_zero]at hL
  have Hg:=hd.lt;have hX:=hid hd;have Hk:=hid hr;clear he hd hr;by_cases h6:i<kl
  ·obtain⟨PB,poff,y,rfl,Hf,hy,hC,hm⟩:=RowIn.at (show RowIn fpcells 2 YJ wr (.slice pa kl pc) k.phis from by rw[←Hk.out];exact hX.out.blk.1) (by rw[ht.out];exact h6)
   obtain⟨dst,ins,inv⟩:=y;obtain⟨ia,ic,Hb,_⟩:=RowIn.shape (show RowIn prcells 2 (fun _ _=>True) wr inv ins from hm)
   subst Hb;have h4:wr.cell? ⟨PB,poff+i*2,none⟩=some (.int .i64 dst):=hC 0 zaJ;have h2:wr.cell? ⟨PB,poff+i*2+1,none⟩=some (.slice ia ins.length ic):=hC 1 zaJ;have HY:=hid hy;have Ho:=zH (ins.length≤9) (Hp.out _ (List.mem_of_getElem? hy));have hV:=zH (RowIn prcells 2 (fun _ _=>True) wr (.slice ia ins.length ic) ins) hm;clear hy hC hm;go_upto_region 11 with fail
   obtain⟨wp,hp⟩:∃ z,z=wr.alloc (.cells #[.int .i64 dst,.slice ia ins.length ic] 138):=⟨_,rfl⟩
   have hq:Since wr wp:=by rw[hp];exact (Since.refl _).alloc _
   obtain⟨pb,hw⟩:∃ z,z=wr.heap.size:=⟨_,rfl⟩
   have hR:=zH (HeapIs wp pb #[.int .i64 dst,.slice ia ins.length ic] 138) (by rw[hp,hw];exact HeapIs.new _ _ _);rw[←hp,←hw];have hn:=hid (hD.out.keep hq);have Hl:=hid (RowIn.keep (fun _ _ _ _ _=>trivial) hV.out hq);have Hj:=zH (wB.heap.size≤wp.heap.size) (Nat.le_trans hD.out.old.size hq.size);have HI:=zH (i≤k.phis.length) (by rw[ht.out];omega);clear hp hw hq h0 hZ hL Hg h4 h2 Hf;refine Zh 10 rfl zaC zaC zaC zaJ
    [Is (.pointer (some ⟨nb,0,none⟩)),Is (.slice va i vc),Is (.pointer (some ⟨pb,0,none⟩)),Is (.int .i64 dst),IsNilOf 141 wp,Is (.pointer (some ⟨pb,1,none⟩)),Is (.slice ia ins.length ic),Wg wp ins,JF wp dst ins,VK wp dst ins]
    (by repeat (first | exact trivial | refine⟨Is.stable _,?_⟩ | refine⟨IsNilOf.stable _ _,?_⟩ | refine⟨Wg.stable _ _,?_⟩ | refine⟨JF.stable _ _ _,?_⟩ | refine⟨VK.stable _ _ _,?_⟩)) ⟨?_,?_,?_,?_,?_,?_,?_,?_,?_,?_,trivial⟩ ?_
   rotate_right
   ·intro vs w5 hs hk;revert hk;refine zs0 ?_;intro hk
    obtain⟨q1,na,nc,h9,Hh,hP⟩:VK wp dst ins (vs 9) w5:=by exact hk.2.2.2.2.2.2.2.2.2.1
    simp only[h9];have ha:=hid (hn.out.keep hs);have hE:=zH (OwnRow prcells 2 141 wB.heap.size w5 (.slice na ins.length nc) ins) (ZcL hP Hj.out);have Hc:=ha.out.box.frozen;have h5:=ha.out.box.lt;have He:=ha.out.box.cell 0;have hA:=hn.out.len HI.out;have ho:=hid hA;clear hk hs hP hA;go_wp2_with (refine ZC (base:=wB.heap.size) fpcells 2 Xm zaJ rfl _ _ 133 rfl 138 (.agg #[.int .i64 0,.slice none 0 0]) 32 underlying133 zaF rfl (.slice va i vc) phs ⟨dst,ins,.slice na ins.length nc⟩ q1 1 138 rfl rfl ha.out.row Hh (by intro u hu;simp only[fpcells,List.mem_cons,List.not_mem_nil,or_false]at hu;rcases hu with rfl | rfl<;>rfl) (by rw[ho.out];unfold maxLen;omega) (by rw[ho.out];omega) (ha.out.old.size) ?_;intro v' w6 hg hh hF;have hY:=hid (ha.out.add (p:=⟨dst,ins,.slice na ins.length nc⟩) HY.out ⟨rfl,rfl⟩ hE.out hg hh);have Hc:=(ha.out.box.turn hh (fun e=>Zn ha.out.row ha.out.box zaJ e)).frozen;have h5:=(ha.out.box.turn hh (fun e=>Zn ha.out.row ha.out.box zaJ e)).lt;have He:=(ha.out.box.turn hh (fun e=>Zn ha.out.row ha.out.box zaJ e)).cell 0;obtain⟨va2,vc2,hG⟩:=Ze (show w6.ownsRow _ _ _ _ _ _ from hg);rw[show (phs++[(⟨dst,ins,.slice na ins.length nc⟩:YW)]).length=i+1 from by rw[List.length_append,ho.out];rfl]at hG;subst hG;clear hg hh hF)
    exact Hn.out (kl-(i+1)) _ _ zaK ⟨i+1,_,va2,vc2,rfl,zaK,(XE rfl rfl zf0),hY.out⟩
   all_goals
    intro vs w5 hs hk _;revert hk;refine zs1 ?_;intro hk
   ·exact kH
   ·have hb:=(hn.out.keep hs).box;exact jP
   ·exact kH
   ·have hb:HeapIs w5 pb #[.int .i64 dst,.slice ia ins.length ic] 138:=hR.out.keep hs;exact jP
   ·exact jz
   ·exact kH
   ·have hb:HeapIs w5 pb #[.int .i64 dst,.slice ia ins.length ic] 138:=hR.out.keep hs;have hc:=hb.cell 1;have hl:=hb.lt;clear hb;exact kH
   ·have hz:=hs.size;have hU:IsNilOf 141 wp (vs 4) w5:=by exact hk.1
    have hS:=XD Y2 zaJ (RowIn.keep (fun _ _ _ _ _=>trivial) Hl.out hs);have Ht:=Ho.out;generalize vs 4=v4 at *;clear hk;refine Z7 (w0:=wp) rfl _ _ 136 rfl 141 (.agg #[.int .i64 0,.int .i64 0]) 2 16 underlying136 zaF rfl zaJ zaJ v4 (.slice ia ins.length ic) ins.length (ins.flatMap prcells) rfl rfl hU hS (VG prcells 2 Y2 ins) zaK (fun u hu=>by obtain⟨z,_,hH⟩:=List.mem_flatMap.1 hu;simp only[prcells,List.mem_cons,List.not_mem_nil,or_false]at hH;rcases hH with rfl | rfl<;>rfl) hz ?_;intro v' w3 hT h1;go_wp2
    exact⟨_,rfl,hT,h1⟩
   ·have h7:Wg wp ins (vs 7) w5:=by exact hk.2.1
    obtain⟨na,nc,hv⟩:=OwnRow.shape (show OwnRow prcells 2 141 wp.heap.size w5 (vs 7) ins from h7)
    have h3:vs 3=.int .i64 dst:=by exact hk.1
    generalize vs 7=v7 at *;subst hv;clear hk;go_wp2
    exact⟨_,rfl,⟨na,nc,rfl,h7⟩,.refl _⟩
   ·obtain⟨na,nc,h8,Hi⟩:JF wp dst ins (vs 8) w5:=by exact hk.1
    simp only[h8];clear hk;go_wp2
    exact⟨_,rfl,⟨_,na,nc,rfl,HeapIs.new _ _ _,OwnRow.keep Hi ((Since.refl _).alloc _)⟩,(Since.refl _).alloc _⟩
  ·obtain rfl:kl=i:=zaK
   go_wp2_with fail
   exact HQ.out _ _ phs _ (XE rfl rfl zf0) (by rw[ht.out];exact hD.out)
theorem Mv7.old {kb a n i:Nat} {w0 w w':World} {m m':K7} (h:Mv7 kb w m w' m' a n i) (s:Since w0 w) (ha:∀ q,YM kb m q→w0.heap.size≤q):Since w0 w':=h.turn.toSince s fun k hk e=>by have:=ha k e;omega
theorem ZeZ (w0 wI:World) (C:Nat→Prop) (sv:Value) (l:List Int) (mI:K7) (params:Int) (fb:List Zt) (k:Zt) (xb rb kb ob nb FB foff n fbc b:Nat) (a0:Act) (w1:World) (Q0:Exit→Act→World→Prop) (hz:FrO [(2,.pointer (some ⟨xb,0,none⟩)),(4,.pointer (some ⟨rb,0,none⟩)),(5,.pointer (some ⟨kb,0,none⟩)),(6,.pointer (some ⟨ob,0,none⟩)),(7,.int .i64 b),(8,.pointer (some ⟨nb,0,none⟩)),(11,.int .i64 (0:Nat))] a0)
  (hB:FnIn w0 ⟨params,fb,.slice (some ⟨FB,foff,none⟩) n fbc⟩) (hC:(∀ x∈k.ins,∀ q,x.av.ownBlock=some q→q<w0.heap.size)∧True) (hw:fb[b]? = some k) (Hc:n≤9) (He:b<n) (hm:Since w0 wI) (hD:HeapIs wI xb #[.int .i64 params,.slice (some ⟨FB,foff,none⟩) n fbc] 109∧¬ YM kb mI xb)
  (hv:(∀ q,YM kb mI q→w0.heap.size≤q)∧∀ q,C q→w0.heap.size≤q) (hx:∀ x∈k.ins,Ye 700 x) (hM:k.ins.length≤700) (hA:mI.at_+4*k.ins.length≤40000) (hN:0≤mI.next∧mI.next+4*k.ins.length≤4000) (hL:mI.l=[]) (hd:K7Ok C kb sv l mI w1) (hs:Mv7 kb wI mI w1 mI 0 0 0)
  (hQ:∀ a1 w2 (m:K7),FrO [(2,.pointer (some ⟨xb,0,none⟩)),(4,.pointer (some ⟨rb,0,none⟩)),(5,.pointer (some ⟨kb,0,none⟩)),(6,.pointer (some ⟨ob,0,none⟩)),(7,.int .i64 b),(8,.pointer (some ⟨nb,0,none⟩))] a1→K7Ok C kb sv l m w2→Mv7 kb wI mI w2 m (4*k.ins.length) (4*k.ins.length) (5*k.ins.length)→Q0 .normal a1 w2):Code.wp prog (OCode [1,1,1,0,1,0,0,1,0,0,1,1,1,0,1]) Q0 a0 w1:=by
 obtain⟨u,he,hu⟩:=Xh hz;obtain⟨g1,g2,s2,s4,s5,s6,s7,s8,s11,g3⟩:=hz;have e2:=hu 2 _ s2;have e4:=hu 4 _ s4;have e5:=hu 5 _ s5;have e6:=hu 6 _ s6;have e7:=hu 7 _ s7;have e8:=hu 8 _ s8;have e11:=hu 11 _ s11;rw[e2,e4,e5,e6,e7,e8,e11]at he;subst he;clear hu g1 g2 g3 e2 s2 e4 s4 e5 s5 e6 s6 e7 s7 e8 s8 e11 s11
 conv=>arg 2;whnf
 have HQ:=hid hQ;have hX:=hid hB;have hY:=hid hC;have ho:=hid hm;have hF:=hid hD;have hU:=hid hw;have hp:=hid hv;have hW:=hid hx;clear hQ hB hm hD hC hv hx;obtain⟨kl,hn⟩:∃ z,k.ins.length=z:=⟨_,rfl⟩
 have hr:=hid hn;rw[hn]at hM hA hN;clear hn hw;have hZ:=hid (And.intro hA (And.intro hN hL));clear hA hN hL;go_wp2_with fail
 refine ZS (fun t ac wr=>∃ (i:Nat) (m:K7),t=kl-i∧i≤kl∧FrO [(2,.pointer (some ⟨xb,0,none⟩)),(4,.pointer (some ⟨rb,0,none⟩)),(5,.pointer (some ⟨kb,0,none⟩)),(6,.pointer (some ⟨ob,0,none⟩)),(7,.int .i64 b),(8,.pointer (some ⟨nb,0,none⟩)),(11,.int .i64 i)] ac∧K7Ok C kb sv l m wr∧Mv7 kb wI mI wr m (4*i) (4*i) (5*i)) kl ⟨0,mI,rfl,Nat.zero_le _,(XE rfl rfl zf0),hd,hs⟩ ?_
 ·clear hd hs;intro t a1 wr K hJ hK;have hV:=hid hK;clear hK;obtain⟨i,m,rfl,hi,hf,hd,hj⟩:=hJ;obtain⟨u,he,hu⟩:=Xh hf;obtain⟨g1,g2,s2,s4,s5,s6,s7,s8,s11,g3⟩:=hf;have e2:=hu 2 _ s2;have e4:=hu 4 _ s4;have e5:=hu 5 _ s5;have e6:=hu 6 _ s6;have e7:=hu 7 _ s7;have e8:=hu 8 _ s8;have e11:=hu 11 _ s11;rw[e2,e4,e5,e6,e7,e8,e11]at he;subst he;clear hu g1 g2 g3 e2 s2 e4 s4 e5 s5 e6 s6 e7 s7 e8 s8 e11 s11;have hE:=hid hd;have hb:=hid hj;have hh:Since w0 wr:=hj.old ho.out fun q hq=>hp.out.1 q hq
  have ha:=FAt.of hX.out hU.out hh (hj.heap hF.out.1 hF.out.2);obtain⟨pa,pc,hg,_⟩:=RowIn.shape (show RowIn Z6 5 WG wr k.inv k.ins from ha.blk.2.1);rw[hr.out]at hg;have h6:wr.cell? ⟨xb,1,none⟩=some (.slice (some ⟨FB,foff,none⟩) n fbc):=ha.box.cell 1;have h0:=ha.box.lt;have hO:=ha.cell 1 zaJ;rw[show (fbcells k)[1]? = some k.inv from rfl,hg]at hO
  have Hg:=ha.lt;have hH:=hid ha;have hT:=hid hg;clear hd hj ha hg hh;by_cases hI:i<kl
  ·obtain⟨PB,poff,y,rfl,Hf,hy,hc,hl⟩:=RowIn.at (show RowIn Z6 5 WG wr (.slice pa kl pc) k.ins from by rw[←hT.out];exact hH.out.blk.2.1) (by rw[hr.out];exact hI)
   have hk:=List.mem_of_getElem? hy;have hG:=zH (Zd wr y.av y.args) hl;have hP:=hid (hW.out y hk);have ht:Stays (ZT C kb m) wr y.av:=fun q hq=>by
    have h1:=(hY.out.1 y hk) q hq;have h2:=hb.out.turn.size;have h3:=ho.out.size;refine⟨?_,zaK⟩;rintro (h4|h4)
    ·rcases hb.out.new q h4 with h5|h5
     ·have:=hp.out.1 q h5;omega
     ·omega
    ·have:=hp.out.2 q h4;omega
   have hR:=hid ht;have hS:=hid (show Sm7 40 m from by
    have h1:=hb.out.at_;have h2:=hb.out.next;have h3:=hb.out.len;have h4:=hZ.out;rw[h4.2.2]at h3;simp only[List.length_nil]at h3;exact⟨zaK,zaK,zaK⟩)
   have Hb:wr.cell? ⟨PB,poff+i*5,none⟩=some (.int .i64 y.op):=hc 0 zaJ;have Ha:wr.cell? ⟨PB,poff+i*5+1,none⟩=some (.int .i64 y.dst):=hc 1 zaJ;have h9:wr.cell? ⟨PB,poff+i*5+2,none⟩=some (.int .i64 y.two):=hc 2 zaJ;have h8:wr.cell? ⟨PB,poff+i*5+3,none⟩=some y.av:=hc 3 zaJ;have h7:wr.cell? ⟨PB,poff+i*5+4,none⟩=some (.int .i32 y.imm):=hc 4 zaJ;clear hy hc hl hk ht;go_wp2_with fail
   refine (Ze8 hE.out hS.out y ⟨hG.out,hR.out⟩ hP.out).mono ?_;rintro e w2 ⟨m2,rfl,h2,mv2⟩;have H2:=hid h2;have MV2:=hid ((hb.out.trans mv2).more (a':=4*(i+1)) (n':=4*(i+1)) (i':=5*(i+1)) zaK zaK zaK);clear h2 mv2;go_wp2_with fail
   exact hV.out (kl-(i+1)) _ _ zaK ⟨i+1,m2,rfl,zaK,(XE rfl rfl zf0),H2.out,MV2.out⟩
  ·obtain rfl:kl=i:=zaK
   go_wp2_with fail
   exact HQ.out _ _ m (XE rfl rfl zf0) hE.out (by rw[hr.out];exact hb.out)
def OfC (ob rb nb:Nat) (bkv:Value) (q:Nat):Prop:=q=ob∨q=rb∨q=nb∨bkv.ownBlock=some q
section
variable {w0 wr w2 w3 w5 w7 wz w8 w9:World} {xb ob rb kb nb n b a nn i:Nat} {params:Int} {fbv sv bkv bkv' phv:Value} {l : List Int} {fb:List Zt} {k : Zt} {bks:List MBlkV} {phs:List YW} {mI m:K7} {ev:ZY}
theorem OfS.kbAt (h:OfS w0 xb ob rb kb n params fbv sv fb b bks bkv wr):∃ cs,HeapIs wr kb cs 172:=by
 obtain⟨at_,nx,lv,h1,_⟩:=h.mkr;exact⟨_,h1⟩
theorem OfS.next (h:OfS w0 xb ob rb kb n params fbv sv fb b bks bkv wr) (hk:fb[b]? = some k) (hP:PhSt wr nb k.phis k.phis.length phs phv w2) (hT:nb=wr.heap.size) (t3:Zb (fun q=>q=kb) w2 w3)
  (hI:mI.at_≤4*YY (fb.take b)+2*b∧0≤mI.next∧mI.next≤700+4*YY (fb.take b)+b∧mI.l=[]∧mI.lv=.slice none 0 0∧mI.base=w0.heap.size)
  (hb:Mv7 kb w3 mI w5 m (4*k.ins.length+2) (4*k.ins.length+1) (5*k.ins.length+2)) (ha:K7Ok (OfC ob rb nb bkv) kb sv l m w5) (hm:Zd w5 ev.tov ev.to∧Stays (ZT (OfC ob rb nb bkv) kb m) w5 ev.tov) (ht:∀ q,ev.tov.ownBlock=some q→m.base≤q) (hE:Vh n ev)
  (hD:∀ p∈k.phis,(0≤p.dst∧p.dst<700)∧p.ins.length≤9∧∀ y∈p.ins,(0≤y.1∧y.1<(n:Int))∧0≤y.2∧y.2<700) (hW:k.phis.length≤3)
  (t7:Zb (fun q=>q=nb) w5 w7) (s7:Since w7 wz) (t8:Zb (fun q=>bkv.ownBlock=some q) wz w8) (hf:Yb wz bkv bkv') (hj:OwnRow mbcells 7 135 w0.heap.size w8 bkv' (bks++[⟨phs,phv,m.l,m.lv,ev⟩]))
  (t9:Zb (fun q=>q=ob) w8 w9) (hu:HeapIs w9 ob #[.int .i64 params,bkv'] 101):OfS w0 xb ob rb kb n params fbv sv fb (b+1) (bks++[⟨phs,phv,m.l,m.lv,ev⟩]) bkv' w9:=by
 obtain⟨cs,hh⟩:=h.kbAt;have hQ:=hP.old.size;have hO:=t3.size;have hN:=hb.turn.size;have hM:=t7.size;have hJ:=s7.size;have hL:=t8.size;have hK:=t9.size;have hV:=hh.lt;have hS:=h.out.lt;have hR:=h.res.lt;have ho:∀ q,bkv.ownBlock=some q→w0.heap.size≤q∧q<wr.heap.size:=fun q hq=>World.ownsRow.lt (show wr.ownsRow _ _ _ _ _ _ from h.row) q hq
 have tn:Zb (fun q=>q=kb∨q=nb∨q=ob∨bkv.ownBlock=some q) w2 w9:=by
  have a3:=t3.mono (S':=fun q=>q=kb∨q=nb∨q=ob∨bkv.ownBlock=some q) fun q _ e=>.inl e
  have a5:=hb.turn.mono (S':=fun q=>q=kb∨q=nb∨q=ob∨bkv.ownBlock=some q) fun q _ e=>by
   rcases e with e|e
   ·exact .inl e
   ·rw[hI.2.2.2.2.1]at e;cases e
  have a7:=t7.mono (S':=fun q=>q=kb∨q=nb∨q=ob∨bkv.ownBlock=some q) fun q _ e=>.inr (.inl e)
  have az:=Zb.since (S:=fun q=>q=kb∨q=nb∨q=ob∨bkv.ownBlock=some q) s7;have a8:=t8.mono (S':=fun q=>q=kb∨q=nb∨q=ob∨bkv.ownBlock=some q) fun q _ e=>.inr (.inr (.inr e))
  have a9:=t9.mono (S':=fun q=>q=kb∨q=nb∨q=ob∨bkv.ownBlock=some q) fun q _ e=>.inr (.inr (.inl e))
  exact ((((a3.trans a5).trans a7).trans az).trans a8).trans a9
 have tt:Zb (fun q=>q=kb∨q=ob∨bkv.ownBlock=some q) wr w9:=by
  have a1:=(Zb.since (S:=fun q=>(q=kb∨q=ob∨bkv.ownBlock=some q)∨q=nb) hP.old)
  have a2:=tn.mono (S':=fun q=>(q=kb∨q=ob∨bkv.ownBlock=some q)∨q=nb) fun q _ e=>by
   rcases e with e|e|e|e
   ·exact .inl (.inl e)
   ·exact .inr e
   ·exact .inl (.inr (.inl e))
   ·exact .inl (.inr (.inr e))
  refine (a1.trans a2).mono fun q hq e=>?_
  rcases e with e|e
  ·exact e
  ·omega
 have t5:Zb (fun q=>q=nb∨q=ob∨bkv.ownBlock=some q) w5 w9:=by
  have a7:=t7.mono (S':=fun q=>q=nb∨q=ob∨bkv.ownBlock=some q) fun q _ e=>.inl e
  have az:=Zb.since (S:=fun q=>q=nb∨q=ob∨bkv.ownBlock=some q) s7;have a8:=t8.mono (S':=fun q=>q=nb∨q=ob∨bkv.ownBlock=some q) fun q _ e=>.inr (.inr e)
  have a9:=t9.mono (S':=fun q=>q=nb∨q=ob∨bkv.ownBlock=some q) fun q _ e=>.inr (.inl e)
  exact ((a7.trans az).trans a8).trans a9
 have hr:∀ q,(q=nb∨q=ob∨bkv.ownBlock=some q)→OfC ob rb nb bkv q:=by
  rintro q (e|e|e)
  ·exact .inr (.inr (.inl e))
  ·exact .inl e
  ·exact .inr (.inr (.inr e))
 have hg:∀ {v : Value},(∀ q,v.ownBlock=some q→wr.heap.size≤q∧q<w2.heap.size∧q≠nb)→(∀ q,v.ownBlock=some q→¬ (q=kb∨q=nb∨q=ob∨bkv.ownBlock=some q))∧Stays (OfT w0.heap.size kb ob rb bkv') w9 v:=fun {v} hv=>by
  refine⟨fun q hq e=>?_,fun q hq=>⟨fun e=>?_,?_⟩⟩
  ·have h1:=hv q hq;rcases e with e|e|e|e
   ·omega
   ·exact h1.2.2 e
   ·omega
   ·have:=ho q e;omega
  ·have h1:=hv q hq;have hF:=h.old.size;rcases e with e|e|e|e|e;iterate 4
    ·omega
   ·rcases hf q e with h2|h2
    ·have:=ho q h2;omega
    ·omega
  ·have h1:=hv q hq;have:=tn.size;omega
 have hi:∀ q,phv.ownBlock=some q→wr.heap.size≤q∧q<w2.heap.size∧q≠nb:=fun q hq=>by
  have h1:=World.ownsRow.lt (show w2.ownsRow _ _ _ _ _ _ from hP.row) q hq;exact⟨h1.1,h1.2,fun e=>Zn hP.row hP.box zaJ (e ▸ hq)⟩
 have hl:∀ p∈phs,∀ q,p.inv.ownBlock=some q→wr.heap.size≤q∧q<w2.heap.size∧q≠nb:=fun p hp q hq=>by
  have h1:=World.ownsRow.lt (show w2.ownsRow _ _ _ _ _ _ from hP.ins p hp) q hq;exact⟨h1.1,h1.2,fun e=>Zn (hP.ins p hp) hP.box zaJ (e ▸ hq)⟩
 have hH:phs.length=k.phis.length:=hP.len (Nat.le_refl _);have hs:∀ p∈phs,∃ y∈k.phis,p.dst=y.dst∧p.ins=y.ins:=fun p hp=>by
  have h1:(p.dst,p.ins)∈phs.map (fun p=>(p.dst,p.ins)):=List.mem_map.2 ⟨p,hp,rfl⟩
  rw[hP.same,List.take_length]at h1;obtain⟨y,hy,he⟩:=List.mem_map.1 h1;injection he with e1 e2
  exact⟨y,hy,e1.symm,e2.symm⟩
 have hd:∀ q,m.lv.ownBlock=some q→¬ (q=nb∨q=ob∨bkv.ownBlock=some q):=fun q hq e=>(ha.aside q (hr q e)).2 (.inr hq)
 have hU:m.base=w0.heap.size:=hb.base.trans hI.2.2.2.2.2;have hc:∀ {v : Value},Stays (ZT (OfC ob rb nb bkv) kb m) w5 v→(∀ q,v.ownBlock=some q→m.base≤q)→(∀ q,v.ownBlock=some q→¬ (q=nb∨q=ob∨bkv.ownBlock=some q))∧Stays (OfT w0.heap.size kb ob rb bkv') w9 v:=fun {v} hv hw=>by
  refine⟨fun q hq e=>(hv q hq).1 (.inr (hr q e)),fun q hq=>⟨fun e=>?_,by have:=(hv q hq).2;have:=t5.size;omega⟩⟩
  rcases e with e|e|e|e|e
  ·have:=hw q hq;omega
  ·exact (hv q hq).1 (.inl (.inl e))
  ·exact (hv q hq).1 (.inr (.inl e))
  ·exact (hv q hq).1 (.inr (.inr (.inl e)))
  ·rcases hf q e with h2|h2
   ·exact (hv q hq).1 (.inr (.inr (.inr (.inr h2))))
   ·have:=(hv q hq).2;omega
 have hG:=Jv hk;refine⟨h.box.turn tt ?_,hu,h.res.turn tt ?_,?_,tt.toSince h.old ?_,h.low,h.ne,Zg hj t9 fun q hq e=>?_,fun x hx=>?_,by rw[List.length_append,h.len];rfl,?_⟩
 ·rintro (e|e|e)
  ·exact Yq h.box hh zaJ e
  ·exact Yq h.box h.out zaJ e
  ·exact Zn h.row h.box zaJ e
 ·rintro (e|e|e)
  ·exact Yq h.res hh zaJ e
  ·exact h.ne e.symm
  ·exact Zn h.row h.res zaJ e
 ·have hB:¬ (kb=nb∨kb=ob∨bkv.ownBlock=some kb):=fun e=>(ha.aside kb (hr kb e)).2 (.inl rfl)
  have h1:=hb.at_;have h2:=hb.next;exact⟨m.at_,m.next,m.lv,ha.made.turn t5 hB,zaK,zaK,by push_cast;omega⟩
 ·rintro q hq (e|e|e)
  ·have:=h.low.1;omega
  ·have:=h.low.2.1;omega
  ·have:=ho q e;omega
 ·exact Zn hj (show HeapIs w8 ob #[.int .i64 params,bkv] 101 from by
   have hn:¬ (ob=kb∨bkv.ownBlock=some ob):=by
    rintro (e|e)
    ·exact Yq h.out hh zaJ e
    ·exact Zn h.row h.out zaJ e
   have a1:=h.out.keep hP.old;have a3:=a1.turn t3 fun e=>hn (.inl e)
   have a5:=a3.turn hb.turn fun e=>by
    rcases e with e|e
    ·exact hn (.inl e)
    ·rw[hI.2.2.2.2.1]at e;cases e
   have a7:=a5.turn t7 fun e=>by omega
   exact (a7.keep s7).turn t8 fun e=>hn (.inr e)) zaJ (e ▸ hq)
 ·rcases List.mem_append.1 hx with hx|hx
  ·obtain⟨h1,h2,h3⟩:=h.each x hx;refine⟨h1.turn h2 tt fun q _ e=>?_,h2.mono (fun q e=>?_) tt.size,h3⟩
   ·rcases e with e|e|e
    ·exact .inr (.inl e)
    ·exact .inr (.inr (.inl e))
    ·exact .inr (.inr (.inr (.inr e)))
   ·rcases e with e|e|e|e|e
    ·exact .inl (.inl e)
    ·exact .inl (.inr (.inl e))
    ·exact .inl (.inr (.inr (.inl e)))
    ·exact .inl (.inr (.inr (.inr (.inl e))))
    ·rcases hf q e with h4|h4
     ·exact .inl (.inr (.inr (.inr (.inr h4))))
     ·exact .inr zaK
  ·rw[List.mem_singleton.1 hx];have hz:OwnRow fpcells 2 138 wr.heap.size w9 phv phs:=Zg hP.row tn (hg hi).1;have hC:∀ p∈phs,YJ w9 p:=fun p hp=>show RowIn prcells 2 (fun _ _=>True) w9 p.inv p.ins from Z0 Y2 (show OwnRow prcells 2 141 wr.heap.size w9 p.inv p.ins from Zg (hP.ins p hp) tn (hg (hl p hp)).1) fun _ _=>trivial
   have hA:OwnRow Yd 8 36 m.base w9 m.lv m.l:=Zg ha.row t5 hd;refine⟨⟨Z0 Xm hz hC,Z0 J3 hA fun y hy=>(ha.arg y hy).1.turn t5 (hc (ha.arg y hy).2 (ha.newer y hy)).1,hm.1.turn t5 (hc hm.2 ht).1⟩,⟨(hg hi).2,fun p hp=>(hg (hl p hp)).2,fun q hq=>⟨fun e=>?_,?_⟩,fun y hy=>(hc (ha.arg y hy).2 (ha.newer y hy)).2,(hc hm.2 ht).2⟩,by show phs.length≤3;omega,fun p hp=>?_,ha.good,hE⟩
   ·rcases e with e|e|e|e|e
    ·have:=(World.ownsRow.lt (show w5.ownsRow _ _ _ _ _ _ from ha.row) q hq).1;omega
    ·exact ha.kb_row (e ▸ hq)
    ·exact hd q hq (.inr (.inl e))
    ·exact (ha.aside q (.inr (.inl e))).2 (.inr hq)
    ·rcases hf q e with h4|h4
     ·exact hd q hq (.inr (.inr h4))
     ·have:=ZR ha.row hq;omega
   ·have:=ZR ha.row hq;have:=t5.size;omega
   ·obtain⟨y,hy,e1,e2⟩:=hs p hp;rw[e1,e2];exact hD y hy
 ·have h1:=hb.len;rw[hI.2.2.2.1]at h1;simp only[List.length_nil]at h1;have h2:=h.total;unfold Xs at h2 ⊢;rw[List.map_append,List.sum_append];show _+(m.l.length+0)≤_
  omega
end
end Go.Proofs.YtimpddecdodddaaGreat
