import Derived.Test.YtimpddecdodddaaGreatSb42
namespace Go.Proofs.YtimpddecdodddaaGreat
open Go.RowKit Go.Lib
set_option linter.unusedVariables false
set_option maxHeartbeats 4000000
set_option maxRecDepth 1000000
theorem zK {P:Prop} (h:P:=by
 rw[if_pos (by omega)];go_enter Tryz.func70,Tryz.ntmps70
 go_wp2
 go_ret
 exact Xh (Zp ((Since.refl _).alloc _) [a] _ (by simp) rfl (show 1≤maxLen from by decide) rfl) (by intro q hq;have h9:=Option.some.inj hq;simp at h9;simp;omega)):P:=h
theorem z5 {P:Prop} (h:P:=by
 rw[if_neg (by omega)];have n3:=zN op 3;have n4:=zN op 4;have n5:=zN op 5;go_enter Tryz.func70,Tryz.ntmps70
 go_wp2
 go_ret
 exact Xh (ZP ((Since.refl _).alloc _)) (by intro q hq;cases hq)):P:=h
def GivesNew (w:World) (l:List Int) (e:Ending) (w':World):Prop:=∃ v,e=.returned v∧Zi w' v l∧Since w w'∧∀ q,v.ownBlock=some q→w.heap.size≤q∧q<w'.heap.size
theorem Xh {w w':World} {l : List Int} {v : Value} (h:YK w l (.returned v) w') (hn:∀ q,v.ownBlock=some q→w.heap.size≤q∧q<w'.heap.size):GivesNew w l (.returned v) w':=by
 obtain⟨v',e,h1,h2⟩:=h
 cases e
 exact⟨v,rfl,h1,h2,hn⟩
theorem ZaQ (e:Yb) (w:World) (ht:∃ a n c,e.tov=.slice a n c):Calls Tryz.prog 70 #[ev e] w (GivesNew w (needs e)):=by
 obtain⟨ta,tn,tc,hb⟩:=ht;obtain⟨op,a,b,tl,tov,imm⟩:=e;dsimp only at hb;subst hb;unfold ev needs;dsimp only;by_cases g2:op=2
 ·subst g2;exact zK
 by_cases g6:op=6
 ·subst g6;exact zK
 have n2:(op==2)=false:=by simpa using g2
 have n6:(op==6)=false:=by simpa using g6
 by_cases g7:op=7
 ·subst g7;by_cases ha:0≤a
  ·exact zK
  ·rw[if_neg kT,if_neg kT];have hd:decide (0≤a)=false:=decide_eq_false ha;go_enter Tryz.func70,Tryz.ntmps70
   go_wp2
   go_ret
   exact Xh (ZP ((Since.refl _).alloc _)) (by intro q hq;cases hq)
 rw[if_neg kT];have n7:(op==7)=false:=by simpa using g7
 clear g2 g6 g7;by_cases h3:3≤op
 ·by_cases h5:op≤5
  ·rw[if_pos ⟨h3,h5⟩];rcases (show op=3∨op=4∨op=5 by omega) with rfl|rfl|rfl;all_goals
    go_enter Tryz.func70,Tryz.ntmps70
    go_wp2
    go_ret
    exact Xh (Zp ((Since.refl _).alloc _) [a,b] _ kU rfl (show 2≤maxLen from by decide) rfl) (by intro q hq;have h9:=Option.some.inj hq;simp at h9;simp;omega)
  ·exact z5
 ·exact z5
def Apart (nv v:Value) (yq:Nat) (w:World):Prop:=∀ q,nv.ownBlock=some q→q≠yq∧v.ownBlock≠some q∧q<w.heap.size
theorem ZcG (wY:World) (mq xq rq pq yq:Nat) (params S:Int) (bs:List ZC) (BB boff n bc:Nat) (k:ZC) (OB ooff oc:Nat) (ow:List Int) (b:Nat) (v0:Value) (xs0:List PlV) (la:Option Addr) (ll lc:Nat) (l:List Int) (c:Nat) (a0:Act) (w1:World) (Q0:Exit→Act→World→Prop) (hL:FrV [(2,.pointer (some ⟨mq,0,none⟩)),(4,.pointer (some ⟨rq,0,none⟩)),(6,.pointer (some ⟨pq,0,none⟩)),(7,.slice (some ⟨OB,ooff,none⟩) n oc),(10,.int .i64 b),(11,.pointer (some ⟨xq,0,none⟩)),(12,.pointer (some ⟨yq,0,none⟩)),(20,.slice la ll lc),(21,.int .i64 (0:Nat))] a0)
  (hd:NvD mq xq params bs BB boff n bc k OB ooff oc ow wY) (hg:NvG params S bs n ow) (hI:bs[b]? = some k) (hG:l.length=ll) (He:ll≤2) (hF:∀ r∈l,0≤r∧r<S) (hh:Zt .i64 w1 (.slice la ll lc) l) (ha:Apart (.slice la ll lc) v0 yq w1) (Hi:c≤50000) (he:NvY S wY c yq v0 xs0 w1)
  (hQ:∀ a1 w2 v2 xs2,FrV [(2,.pointer (some ⟨mq,0,none⟩)),(4,.pointer (some ⟨rq,0,none⟩)),(6,.pointer (some ⟨pq,0,none⟩)),(7,.slice (some ⟨OB,ooff,none⟩) n oc),(10,.int .i64 b),(11,.pointer (some ⟨xq,0,none⟩)),(12,.pointer (some ⟨yq,0,none⟩)),(20,.slice la ll lc)] a1→NvY S wY (c+2) yq v2 xs2 w2→Q0 .normal a1 w2):Code.wp Tryz.prog (VCode [1,1,1,1,1,1,1,0,1,0,0,1,0,0,1,1,1,1,1,1,1,0,1]) Q0 a0 w1:=by
 obtain⟨u,hi,hu⟩:=ZH hL;obtain⟨g1,g2,s2,s4,s6,s7,s10,s11,s12,s20,s21,g3⟩:=hL;have e2:=hu 2 _ s2;have e4:=hu 4 _ s4;have e6:=hu 6 _ s6;have e7:=hu 7 _ s7;have e10:=hu 10 _ s10;have e11:=hu 11 _ s11;have e12:=hu 12 _ s12;have e20:=hu 20 _ s20;have e21:=hu 21 _ s21;rw[e2,e4,e6,e7,e10,e11,e12,e20,e21]at hi;subst hi;clear hu g1 g2 g3 e2 s2 e4 s4 e6 s6 e7 s7 e10 s10 e11 s11 e12 s12 e20 s20 e21 s21
 conv=>arg 2;whnf
 have HQ:=hid hQ;have HD:=hid hd;have HG:=hid hg;have Hn:=hid hI;clear hQ hd hg hI;have h8:=hid hG;have h0:=hid hF;have Hf:=HG.out.n9;have Hm:=HG.out.Sle;clear hG hF;go_wp2_with fail
 refine ZO (fun t ac wr=>∃ (j:Nat) (v:Value) (xs:List PlV),t=ll-j∧j≤ll∧FrV [(2,.pointer (some ⟨mq,0,none⟩)),(4,.pointer (some ⟨rq,0,none⟩)),(6,.pointer (some ⟨pq,0,none⟩)),(7,.slice (some ⟨OB,ooff,none⟩) n oc),(10,.int .i64 b),(11,.pointer (some ⟨xq,0,none⟩)),(12,.pointer (some ⟨yq,0,none⟩)),(20,.slice la ll lc),(21,.int .i64 j)] ac∧NvY S wY (c+j) yq v xs wr∧Zt .i64 wr (.slice la ll lc) l∧Apart (.slice la ll lc) v yq wr) ll ⟨0,_,_,rfl,Nat.zero_le _,(ZI rfl rfl (Za rfl (Za rfl (Za rfl (Za rfl (Za rfl (Za rfl (Za rfl (Za rfl (Za rfl (Zh _))))))))))),he,hh,ha⟩ ?_
 ·clear he hh ha;intro t a1 wr K hJ hK;have Hb:=hid hK;clear hK;obtain⟨j,v,xs,rfl,hj,hf,he,hh,ha⟩:=hJ;obtain⟨u,hi,hu⟩:=ZH hf;obtain⟨g1,g2,s2,s4,s6,s7,s10,s11,s12,s20,s21,g3⟩:=hf;have e2:=hu 2 _ s2;have e4:=hu 4 _ s4;have e6:=hu 6 _ s6;have e7:=hu 7 _ s7;have e10:=hu 10 _ s10;have e11:=hu 11 _ s11;have e12:=hu 12 _ s12;have e20:=hu 20 _ s20;have e21:=hu 21 _ s21;rw[e2,e4,e6,e7,e10,e11,e12,e20,e21]at hi;subst hi;clear hu g1 g2 g3 e2 s2 e4 s4 e6 s6 e7 s7 e10 s10 e11 s11 e12 s12 e20 s20 e21 s21;have hp:=hid he;have hO:=hid hh;have hn:=hid ha;clear he hh ha;by_cases hW:j<ll
  ·obtain⟨r,hr⟩:∃ r,l[j]? = some r:=⟨_,List.getElem?_eq_getElem (by rw[h8.out];exact hW)⟩
   obtain⟨LB,loff,rfl,hx,hM⟩:=XH hO.out hr;have hU:=h0.out r (List.mem_of_getElem? hr);have h6:=hid (fun (w5:World) (hs:Since wr w5)=>show w5.cell? ⟨LB,loff+j,none⟩=some (.int .i64 r)∧LB<w5.heap.size from⟨by rw[hs.cell (p:=⟨LB,loff+j,none⟩) hx];exact hM,Nat.lt_of_lt_of_le hx hs.size⟩)
   have hP:=zH (0≤(j:Int)∧(j:Int)<4) kT;have Ha:=zH (0≤r∧r<100000) kT;have hS:=zH (0≤r∧r<S) kT;have Hc:=zH (c+j≤100000) kT;clear hr hU;go_upto_region 44 with fail
   clear hx hM;refine Zg 9 rfl kK kK kK kS
    [Is (.pointer (some ⟨yq,0,none⟩)),Is v,Is (.int .i64 j),Is (.slice (some ⟨LB,loff,none⟩) ll lc),Is (.int .i64 j),Is (.pointer (some ⟨LB,loff+j,none⟩)),Is (.int .i64 r),Is (.agg #[.int .i64 30,.int .i64 j,.int .i64 0,.int .i64 0,.int .i64 0,.int .i64 0,.int .i32 r,.slice none 0 0,.int .i64 (-1)]),GoodRow wY.heap.size S 1]
    jU ⟨?_,?_,?_,?_,?_,?_,?_,?_,?_,trivial⟩ ?_
   rotate_right
   ·intro vs w5 hs hk;simp only[List.take,List.drop,putAll,Act.put,Zc,Ze,Is,List.setIfInBounds_toArray,List.set_cons_zero,List.set_cons_succ,Nat.reduceAdd]at hk ⊢;try simp only[hk]
    obtain⟨ys,hC,hB,hD⟩:GoodRow wY.heap.size S 1 (vs 8) w5:=by exact hk.2.2.2.2.2.2.2.2.1
    generalize vs 8=xv at *;have hZ:=hid hs;have hA:=zH (Apart (.slice (some ⟨LB,loff,none⟩) ll lc) v yq w5) (fun q hq=>⟨(hn.out q hq).1,(hn.out q hq).2.1,Nat.lt_of_lt_of_le (hn.out q hq).2.2 hs.size⟩);have hb:=hid (hp.out.keep hs);have hY:=hid hC;have hX:=hid hB;have hN:=hid hD;have h9:=zH (xs.length+ys.length≤1000000) (by have:=hp.out.few;have:=Hc.out;omega);clear hk hs hC hB hD;go_wp2_with (refine Z8 (base:=wY.heap.size) plcells 9 ZE kS rfl _ _ 30 rfl 38 (.agg #[.int .i64 0,.int .i64 0,.int .i64 0,.int .i64 0,.int .i64 0,.int .i64 0,.int .i32 0,.slice none 0 0,.int .i64 0]) 88 Tryz.underlying30 kO rfl kS v xv xs ys rfl rfl hb.out.row (XG ZE kS hX.out) (Wt hN.out) h9.out hb.out.old.size ?_;intro v' w6 hm ht hv;obtain⟨va2,vc2,hE⟩:=Zf (show w6.ownsRow _ _ _ _ _ _ from hm);obtain⟨l2,hH⟩:∃ z,(xs++ys).length=z:=⟨_,rfl⟩;rw[hH]at hE;subst hE;have hR:=hid hm;have hz:=hid ht;have h7:=hid hv;have ho:=hb.out.box.turn ht (Zm hb.out.row hb.out.box kS);have Hj:=ho.lt;have Hk:=ho.frozen;have Hl:=ho.cell 0;clear hm ht hv ho hH)
    have ha:Apart (.slice (some ⟨LB,loff,none⟩) ll lc) (.slice va2 l2 vc2) yq (w6.setCell ⟨yq,0,none⟩ (.slice va2 l2 vc2)):=fun q hq=>by
     obtain⟨h1,h2,h3⟩:=hA.out q hq;have h5:w5.heap.size≤w6.heap.size:=hz.out.size;refine⟨h1,fun e=>?_,by show q<(w6.setCell _ _).heap.size;simp[World.setCell];omega⟩;rcases h7.out q e with h4|h4
     ·exact h2 h4
     ·omega
    have hV:Zt .i64 (w6.setCell ⟨yq,0,none⟩ (.slice va2 l2 vc2)) (.slice (some ⟨LB,loff,none⟩) ll lc) l:=by
     have h1:=Vh (hO.out.keep hZ.out) hz.out fun _ q hq e=>(hA.out q hq).2.1 e
     exact Vh h1 ((Turn.refl (fun q=>q=yq) w6).setCell (p:=⟨yq,0,none⟩) rfl _) fun _ q hq e=>(hA.out q hq).1 e
    exact Hb.out (ll-(j+1)) _ _ kT ⟨j+1,_,_,rfl,kT,(ZI rfl rfl (Za rfl (Za rfl (Za rfl (Za rfl (Za rfl (Za rfl (Za rfl (Za rfl (Za rfl (Zh _))))))))))),hb.out.put hR.out hz.out hN.out (by have:=hb.out.few;have:=hY.out;omega),hV,ha⟩
   all_goals
    intro vs w5 hs hk _;simp only[List.take,putAll,Act.put,Zk,Ze,Is,List.setIfInBounds_toArray,List.set_cons_zero,List.set_cons_succ,Nat.reduceAdd]at hk ⊢;try simp only[hk]
   ·exact jK
   ·have hw:HeapIs w5 yq #[v,.int .i64 0,.int .i64 0,.int .i64 0,.slice none 0 0,.int .i32 0] 34:=hp.out.box.keep hs;have hc:=hw.cell 0;have hl:=hw.lt;clear hw;exact jK
   iterate 4
    ·exact jK
   ·obtain⟨Hh,Hg⟩:=h6.out w5 hs;exact jx
   ·clear hk;go_wp2_with fail
    refine (Wd j r w5 hP.out Ha.out).mono ?_;rintro e w6 ⟨rfl,hT⟩;go_wp2
    exact⟨_,rfl,rfl,hT⟩
   ·clear hk;go_wp2
    exact⟨_,rfl,⟨[Yr 30 j r],Nat.le_refl 1,Zdj (HeapIs.new _ _ _),fun y hy=>by rw[List.mem_singleton.1 hy];exact PlNew.laid (.inl rfl) hP.out hS.out HG.out.Sle⟩,(Since.refl _).alloc _⟩
  ·obtain rfl:ll=j:=kT
   go_wp2_with fail
   exact HQ.out _ _ v xs (ZI rfl rfl (Za rfl (Za rfl (Za rfl (Za rfl (Za rfl (Za rfl (Za rfl (Za rfl (Zh _)))))))))) (hp.out.more kT)
structure BlkNew (B:Nat) (S:Int) (n:Nat) (w:World) (x:ZD):Prop where
 ins:OwnRow plcells 9 38 B w x.insv x.ins
 each:∀ y∈x.ins,PlNew B S w y
 goals:w.ownsRow B 3 1 x.fin.tov x.fin.to.length (x.fin.to.map (Value.int .i64))
 fin:Vp n x.fin
section
variable {B B' n:Nat} {S : Int} {w w':World} {x : ZD} {T : Nat→Prop}
theorem BlkNew.keep (h:BlkNew B S n w x) (s:Since w w'):BlkNew B S n w' x:=⟨h.ins.keep s,fun y hy=>(h.each y hy).keep s,Zs h.goals s,h.fin⟩
theorem BlkNew.low (h:BlkNew B S n w x) (hb:B'≤B):BlkNew B' S n w x:=⟨Vw h.ins hb,fun y hy=>(h.each y hy).base hb,Vw h.goals hb,h.fin⟩
theorem PlNew.turned {y : PlV} {U : TypeId} (h:PlNew B S w y) (t:Turn T w w') (k:Kin w U T) (h2:3≠U):PlNew B S w' y:=
 ⟨Zj h.args t (k.apart h.args h2),h.good,h.src⟩
theorem BlkNew.turn {U : TypeId} (h:BlkNew B S n w x) (t:Turn T w w') (k:Kin w U T) (h1:38≠U) (h2:3≠U):BlkNew B S n w' x:=
 ⟨Zj h.ins t (k.apart h.ins h1),fun y hy=>(h.each y hy).turned t k h2,Zj h.goals t (k.apart h.goals h2),h.fin⟩
end
structure NvS (w0:World) (mq rq pq:Nat) (params kk S:Int) (bs:List ZC) (BB boff n bc OB ooff oc:Nat) (ow:List Int) (b:Nat) (bks:List ZD) (bkv:Value) (w:World):Prop where
 mbox:HeapIs w mq #[.int .i64 params,.slice (some ⟨BB,boff,none⟩) n bc] 101
 out:HeapIs w pq #[.int .i64 params,.int .i64 kk,.int .i64 S,bkv] 27
 res:HeapIs w rq #[.int .i64 0,.int .i64 0,.int .i64 0,.slice none 0 0] 27
 own:∃ c,w.ownsRow w0.heap.size 3 1 (.slice (some ⟨OB,ooff,none⟩) n oc) c (ow.map (Value.int .i64))∧ow.length=c
 old:Since w0 w
 low:w0.heap.size≤pq∧w0.heap.size≤rq∧rq≠pq
 row:OwnRow blcells 6 34 w0.heap.size w bkv bks
 each:∀ x∈bks,BlkNew w0.heap.size S n w x
 len:bks.length=b
 total:insSum bks≤498*b+7*Xn (bs.take b)
section
variable {w0 w w2 w3 w6:World} {mq rq pq BB boff n bc OB ooff oc b:Nat} {params kk S:Int} {bs:List ZC} {ow:List Int} {bks:List ZD} {bkv v':Value} {T : Nat→Prop}
theorem NvS.keep (h:NvS w0 mq rq pq params kk S bs BB boff n bc OB ooff oc ow b bks bkv w) (s:Since w w2):NvS w0 mq rq pq params kk S bs BB boff n bc OB ooff oc ow b bks bkv w2:=by
 obtain⟨c,ho,hl⟩:=h.own;exact⟨h.mbox.keep s,h.out.keep s,h.res.keep s,⟨c,Zs ho s,hl⟩,h.old.trans s,h.low,h.row.keep s,fun x hx=>(h.each x hx).keep s,h.len,h.total⟩
theorem NvS.turnY {cs:Array Value} {yq:Nat} (h:NvS w0 mq rq pq params kk S bs BB boff n bc OB ooff oc ow b bks bkv w) (hy:HeapIs w yq cs 34) (t:Turn (fun q=>q=yq) w w2) (hl:w0.heap.size≤yq) (ha:¬ bkv.ownBlock=some yq):NvS w0 mq rq pq params kk S bs BB boff n bc OB ooff oc ow b bks bkv w2:=by
 obtain⟨c,ho,hb⟩:=h.own;have k:=Kin.box hy;exact⟨h.mbox.turn t (k.heap h.mbox kS),h.out.turn t (k.heap h.out kS),h.res.turn t (k.heap h.res kS),⟨c,Zj ho t (k.apart ho kS),hb⟩,t.toSince h.old fun q hq e=>by omega,h.low,Zj h.row t fun q hq e=>ha (e ▸ hq),fun x hx=>(h.each x hx).turn t k kS kS,h.len,h.total⟩
theorem NvS.next {y : ZD} {k : ZC} (h:NvS w0 mq rq pq params kk S bs BB boff n bc OB ooff oc ow b bks bkv w) (hk:bs[b]? = some k) (ha:OwnRow blcells 6 34 w0.heap.size w2 v' (bks++[y])) (t:Turn (fun q=>bkv.ownBlock=some q) w w2) (hy:BlkNew w0.heap.size S n w y) (hl:y.ins.length≤498+7*k.ins.length) :
  NvS w0 mq rq pq params kk S bs BB boff n bc OB ooff oc ow (b+1) (bks++[y]) v' (w2.setCell ⟨pq,3,none⟩ v'):=by
 obtain⟨c,ho,hd⟩:=h.own;have k1:=Kin.row (show w.ownsRow _ _ _ _ _ _ from h.row);have hm:=h.mbox.turn t (k1.heap h.mbox kS);have hp:=h.out.turn t (k1.heap h.out kS);have hr:=h.res.turn t (k1.heap h.res kS);have hc:=Zj ho t (k1.apart ho kS);have t2:Turn (fun q=>q=pq) w2 (w2.setCell ⟨pq,3,none⟩ v'):=(Turn.refl (fun q=>q=pq) w2).setCell (p:=⟨pq,3,none⟩) rfl _;have k2:=Kin.box hp;have hb:∀ x,BlkNew w0.heap.size S n w x→BlkNew w0.heap.size S n (w2.setCell ⟨pq,3,none⟩ v') x:=fun x hx=>(hx.turn t k1 kS kS).turn t2 k2 kS kS
 refine⟨hm.turn t2 (k2.heap hm kS),hp.set 3 v',hr.turn t2 h.low.2.2,⟨c,Zj hc t2 (k2.apart hc kS),hd⟩,t2.toSince (t.toSince h.old fun q hq e=>by have:=(World.ownsRow.lt (show w.ownsRow _ _ _ _ _ _ from h.row) q e).1;omega) fun q hq e=>by have:=h.low;omega,h.low,Zj ha t2 (k2.apart (show w2.ownsRow _ _ _ _ _ _ from ha) kS),fun x hx=>?_,by rw[List.length_append,h.len];rfl,?_⟩
 ·rcases List.mem_append.1 hx with hx|hx
  ·exact hb x (h.each x hx)
  ·rw[List.mem_singleton.1 hx];exact hb y hy
 ·have h1:=h.total;have h2:Xn (bs.take (b+1))=Xn (bs.take b)+k.ins.length:=by unfold Xn;rw[List.take_add_one,hk];simp
  have h3:insSum (bks++[y])=insSum bks+y.ins.length:=by unfold insSum;simp
  omega
end
def Jx (e:Yb) (tv:Value):Yb:=⟨e.op,if e.op=7∧(needs e).length=0 then -1 else 0,if 1<(needs e).length then 1 else 0,e.to,tv,e.imm⟩
theorem Za0 {n : Nat} {e : Yb} {tv:Value} (h:Vc n e):Vp n (Jx e tv):=by
 have ho:=h.op;refine⟨?_,?_,h.goals⟩
 ·show XC e=true
  unfold XC;rcases ho with ⟨h1,h2,_⟩|⟨h1,h2,_⟩|⟨h1,h2,_⟩|⟨h1,h2⟩|⟨h1,h2,_⟩
  ·rw[if_pos h1,h2];rfl
  ·rw[if_neg kT,if_pos kT,h2];rfl
  ·rw[if_neg kT,if_neg kT,if_pos h1,Bool.and_eq_true,decide_eq_true_eq,decide_eq_true_eq];exact h2
  iterate 2
   ·rw[if_neg kT,if_neg kT,if_neg kT,if_pos kT,h2];rfl
 ·unfold Y5;rw[List.any_eq_false];intro r hr;have he:(r=0∧(e.op=7→True))∨(r=1∧e.op≠7):=by
   have hd:(Jx e tv).op=e.op:=rfl;have ha:(Jx e tv).a=if e.op=7∧(needs e).length=0 then -1 else 0:=rfl;have hb:(Jx e tv).b=if 1<(needs e).length then 1 else 0:=rfl;unfold needs at hr;rw[hd]at hr;split at hr
   ·rw[List.mem_singleton]at hr
    rename_i hc
    subst hr;rw[ha]at hc ⊢;split
    ·rename_i h1
     rw[if_pos h1]at hc;omega
    ·exact .inl ⟨rfl,fun _=>trivial⟩
   ·split at hr
    ·rename_i hc
     simp only[List.mem_cons,List.not_mem_nil,or_false]at hr;rcases hr with hr|hr
     ·rw[hr,ha,if_neg kT];exact .inl ⟨rfl,fun _=>trivial⟩
     ·rw[hr,hb];split
      ·exact .inr ⟨rfl,kT⟩
      ·exact .inl ⟨rfl,fun _=>trivial⟩
    ·cases hr
  have hd:(Jx e tv).op=e.op:=rfl;rw[hd];simp only[Bool.or_eq_true,Bool.and_eq_true,beq_iff_eq,decide_eq_true_eq];omega
def Zde (w8:World) (yq:Nat) (v:Value) (op ea eb:Int) (tv:Value) (imm:Int) (wx:World):Prop:=HeapIs wx yq #[v,.int .i64 op,.int .i64 ea,.int .i64 eb,tv,.int .i32 imm] 34∧Turn (fun q=>q=yq) w8 wx
def NvE (w0:World) (op imm:Int) (l:List Int) (v:Value) (w:World):Prop:=∃ a c,v=.agg #[.int .i64 op,.int .i64 0,.int .i64 0,.slice a l.length c,.int .i32 imm]∧Yo 3 w0 l (.slice a l.length c) w
theorem NvE.stable (w0:World) (op imm:Int) (l:List Int):ZM (NvE w0 op imm l):=fun v w w' ⟨a,c,h1,h2⟩ s=>⟨a,c,h1,Zs h2 s⟩
end Go.Proofs.YtimpddecdodddaaGreat
