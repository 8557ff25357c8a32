import Derived.Test.YtimpddecdodddaaGreatSb47
namespace Go.Proofs.YtimpddecdodddaaGreat
open Go.RowKit Go.Lib
set_option linter.unusedVariables false
set_option maxHeartbeats 4000000
set_option maxRecDepth 1000000
theorem ze {P:Prop} (h:P:=by
 clear hm;go_enter Tryz.func12,Tryz.ntmps12
 go_wp2_with fail
 refine (hr.out _ ((Since.refl _).alloc _)).mono ?_;rintro e w1 ⟨⟨i1,v1,i2,v2,i3,v3,i4⟩,rfl,hb,q1,q2,q3,q4,hf,ha⟩;dsimp only at q1 q2 q3 q4 ha;have hd:HeapIs (w.alloc (.cells #[.slice none 0 0,.slice none 0 0,.slice none 0 0,.int .i64 0] 43)) w.heap.size #[.slice none 0 0,.slice none 0 0,.slice none 0 0,.int .i64 0] 43:=HeapIs.new _ _ _;have hz:=hd.keep hf;have he:=hd.lt;have hs:=((Since.refl w).alloc _).trans hf;obtain⟨a1,c1,hj⟩:=Zb hb.1.1;obtain⟨a2,c2,hi⟩:=Zb hb.1.2.1;obtain⟨a3,c3,hh⟩:=Zb hb.1.2.2;dsimp only at hj hi hh;subst hj hi hh;have HZ:=hid hz;have hn:=hid (And.intro hb (And.intro q1 (And.intro q2 (And.intro q3 q4))));have hl:=hid (And.intro hs (And.intro he ha));clear hd hz hb q1 q2 q3 q4 hs he ha hf;unfold iv;dsimp only;go_wp2_with (refine wpList_store_row rfl 43 _ _ rfl w.heap.size #[.slice a1 i1.length c1,.slice a2 i2.length c2,.slice a3 i3.length c3,.int .i64 i4] rfl rfl 43 _ HZ.out (by kernel_rfl) rfl (by rw[←Array.all_toList];rfl) ?_)
 have hc:=Xl HZ.out #[.slice a1 i1.length c1,.slice a2 i2.length c2,.slice a3 i3.length c3,.int .i64 i4];have t5:Turn (fun q=>q=w.heap.size) w1 (w1.setRow w.heap.size #[.slice a1 i1.length c1,.slice a2 i2.length c2,.slice a3 i3.length c3,.int .i64 i4]):=Xg (S:=fun q=>q=w.heap.size) rfl _;generalize w1.setRow w.heap.size #[.slice a1 i1.length c1,.slice a2 i2.length c2,.slice a3 i3.length c3,.int .i64 i4]=w5 at *;have hc:HeapIs w5 w.heap.size #[.slice a1 i1.length c1,.slice a2 i2.length c2,.slice a3 i3.length c3,.int .i64 i4] 43:=hc;have e0:=hc.cell 0;have e1:=hc.cell 1;have e2:=hc.cell 2;have e3:=hc.cell 3;have hv:=hc.lt;have hg:KK L w (.returned (.agg #[.slice a1 i1.length c1,.slice a2 i2.length c2,.slice a3 i3.length c3,.int .i64 i4])) w5:=by
  obtain⟨hb,q1,q2,q3,q4⟩:=hn.out;obtain⟨hs,he,ha⟩:=hl.out;refine⟨⟨i1,.slice a1 i1.length c1,i2,.slice a2 i2.length c2,i3,.slice a3 i3.length c3,i4⟩,rfl,⟨⟨hb.1.1.turn t5 fun q hq e=>?_,hb.1.2.1.turn t5 fun q hq e=>?_,hb.1.2.2.turn t5 fun q hq e=>?_⟩,hb.2⟩,q1,q2,q3,q4,t5.toSince hs fun q hq e=>by omega,fun q hq=>?_⟩
  ·have:=ha q (.inl hq);omega
  ·have:=ha q (.inr (.inl hq));omega
  ·have:=ha q (.inr (.inr hq));omega
  ·have:=ha q hq;omega
 have hk:=hid hg;clear hc t5 hg;go_wp2
 exact bodyPost_ret (v:=.agg #[.slice a1 i1.length c1,.slice a2 i2.length c2,.slice a3 i3.length c3,.int .i64 i4]) (by simp[results,Tryz.results12,go_sem,e0,e1,e2,e3]) rfl hk.out):P:=h
theorem zg {P:Prop} (h:P:=by
 clear hm;go_enter Tryz.func8,Tryz.ntmps8
 go_upto_region 1 with fail
 obtain⟨rb,ha⟩:∃ z,z=w.heap.size:=⟨_,rfl⟩
 obtain⟨w1,hb⟩:∃ z,z=w.alloc (.cells #[.int .i64 0,.int .i64 0,.int .i64 0,.slice none 0 0] 27):=⟨_,rfl⟩
 have ho:=zH (HeapIs w1 rb #[.int .i64 0,.int .i64 0,.int .i64 0,.slice none 0 0] 27) (by rw[hb,ha];exact HeapIs.new _ _ _);have hg:=zH (Since w w1) (by rw[hb];exact (Since.refl w).alloc _)
 have hl:=zH (rb=w.heap.size∧w1.heap.size=w.heap.size+1) ⟨ha,by rw[hb];simp⟩;rw[←hb,←ha];clear hb ha;go_wp2_with fail
 refine (hv.out w1 hg.out).mono ?_;rintro e w3 ⟨p,rfl,hd,he,hc⟩;obtain⟨pp,pk,ps,pb,pbv⟩:=p;obtain⟨ba,bc,hf⟩:=OwnRow.shape he.row;dsimp only at hf hd;obtain⟨bl,hi⟩:∃ z,pb.length=z:=⟨_,rfl⟩
 rw[hi]at hf;subst hf;have hp:=hid hd;have hr:=hid (he.low hg.out.size);have hn:=hid (hg.out.trans hc);have ha:=ho.out.keep hc;have hh:=hid ha;have hB:=ha.cell 0;have hA:=ha.cell 1;have hz:=ha.cell 2;have hy:=ha.cell 3;have hw:=ha.lt;have hx:=ha.frozen;unfold pv;dsimp only;clear hd he hc ha hi;go_wp2_with fail
 have hj:=(((hh.out.set 0 (.int .i64 pp)).set 1 (.int .i64 pk)).set 2 (.int .i64 ps)).set 3 (.slice ba bl bc);try simp only[Exit.inBlock,Exit.then]
 refine bodyPost_ret (results_cell_row rfl _ _ rb 27 #[.int .i64 pp,.int .i64 pk,.int .i64 ps,.slice ba bl bc] (0,0) _ rfl hj Tryz.underlying27 rfl (by kernel_rfl)) rfl ?_;have t:Turn (fun q=>q=rb) w3 ((((w3.setCell ⟨rb,0,none⟩ (.int .i64 pp)).setCell ⟨rb,1,none⟩ (.int .i64 pk)).setCell ⟨rb,2,none⟩ (.int .i64 ps)).setCell ⟨rb,3,none⟩ (.slice ba bl bc)):=((((Turn.refl (fun q=>q=rb) w3).setCell (p:=⟨rb,0,none⟩) rfl _).setCell (p:=⟨rb,1,none⟩) rfl _).setCell (p:=⟨rb,2,none⟩) rfl _).setCell (p:=⟨rb,3,none⟩) rfl _;exact⟨⟨pp,pk,ps,pb,.slice ba bl bc⟩,rfl,by show 4≤pk∧pk≤16;exact hp.out,hr.out.turn t (Kin.box hh.out) (by decide) (by decide) (by decide),t.toSince hn.out fun q hq e=>by have:=hl.out;omega⟩):P:=h
theorem zT {P:Prop} (h:P:=by
 have HC:=hid (hz.out w1 hg);have hG:=hid hg;clear ha hg;go_wp2_with fail
 refine HC.out.mono ?_;rintro e w7 ⟨rfl,hr,t7,_⟩;have h7:=hG.out.take hr t7;have HX:=hid (And.intro t7 h7);clear hr t7 h7;go_wp2
 exact⟨_,rfl,rfl,HX.out.1,HX.out.2⟩):P:=h
theorem z4 {P:Prop} (h:P:=by
 have hC:w1.heap.size≠(w.heap.size+1):=by have:=HeapIs.lt (show HeapIs w1 _ _ _ from ha.made);omega
 go_wp2
 exact⟨_,rfl,⟨_,rfl,HeapIs.new _ _ _,hC⟩,Turn.since ((Since.refl _).alloc _),ha.keep ((Since.refl _).alloc _)⟩):P:=h
theorem qp {P:Prop} (h:P:=by
 have kf5:=he.frozen;have kl5:=he.lt;have hH:=hid hp;clear hp hd hi he;go_wp2
 go_roundw
 case rel=>exact⟨k+1,_,by omega,by go_num,hH.out⟩
 case measure=>simp[intOf];omega):P:=h
theorem jh {P:Prop} (h:P:=by
 have hl:=ha.box.lt;go_wp2
 exact⟨_,rfl,rfl,Turn.refl _ _,ha⟩):P:=h
theorem jw {P:Prop} (h:P:=by
 rcases e with e|e
 ·have:=hv _ e;omega
 ·omega):P:=h
theorem jV {P:Prop} (h:P:=by repeat (first | exact trivial | refine⟨Is.stableT _ _,?_⟩ | refine⟨Jo.stableT _ _ _,?_⟩)):P:=h
def wordsF (l:List Int) (b k:Nat):List Int:=(List.range k).map fun t=>wordF l (b+2*t)
theorem Y3 (l:List Int) (b k:Nat):(wordsF l b k).length=k:=by simp[wordsF]
theorem Vq (l:List Int) (b k:Nat):wordsF l b (k+1)=wordsF l b k++[wordF l (b+2*k)]:=by
 unfold wordsF;rw[List.range_succ,List.map_append];rfl
theorem V2 (l:List Int) (b k:Nat):∀ x∈wordsF l b k,In32 x:=by
 intro x hx;obtain⟨t,_,rfl⟩:=List.mem_map.1 hx;exact QL _ _
def Zad (l:List Int):Nat:=(4+takeF l 8 13).toNat
def ZcU (l:List Int):Nat:=(takeF l (9+2*Zad l) 7).toNat
def Jo (mb:Nat) (cs:Array Value) (T:TypeId) (v:Value) (w:World):Prop:=∃ b,v=.slice (some ⟨b,0,none⟩) 1 1∧HeapIs w b cs T∧b≠mb
theorem Jo.stableT (mb:Nat) (cs:Array Value) (T:TypeId):Yg (fun q=>q=mb) (Jo mb cs T):=fun v w w' ⟨b,h1,h2,h3⟩ t=>⟨b,h1,h2.turn t h3,h3⟩
structure YR (w0:World) (mb ib base B0:Nat) (sv:Value) (rest:List Value) (cs:Array Value) (v:Value) (xs:List Int) (ks:List (Value × List Int)) (at_:Nat) (w:World):Prop where
 made:MkAt w mb sv at_ rest
 box:HeapIs w ib cs 43
 old:Since w0 w
 res:HeapIs w w0.heap.size #[.slice none 0 0,.slice none 0 0,.slice none 0 0,.int .i64 0] 43
 above:base≤w.heap.size
 own:Wf base w v xs
 kept:∀ x∈ks,Zt .i32 w x.1 x.2∧∀ q,x.1.ownBlock=some q→B0≤q∧q<base
 low:w0.heap.size<mb∧mb<B0∧w0.heap.size<ib∧ib<B0∧B0≤base∧mb≠ib
section
variable {w0 w w':World} {mb ib base B0 at_:Nat} {sv v:Value} {rest:List Value} {cs:Array Value} {xs:List Int} {ks:List (Value × List Int)}
theorem YR.keep (h:YR w0 mb ib base B0 sv rest cs v xs ks at_ w) (s:Since w w'):YR w0 mb ib base B0 sv rest cs v xs ks at_ w':=
 ⟨h.made.keep s,h.box.keep s,h.old.trans s,h.res.keep s,Nat.le_trans h.above s.size,Zs h.own s,fun x hx=>⟨(h.kept x hx).1.keep s,(h.kept x hx).2⟩,h.low⟩
theorem YR.take {at':Nat} (h:YR w0 mb ib base B0 sv rest cs v xs ks at_ w) (hm:MkAt w' mb sv at' rest) (t:Turn (fun q=>q=mb) w w'):YR w0 mb ib base B0 sv rest cs v xs ks at' w':=by
 have hl:=h.low;refine⟨hm,h.box.turn t fun e=>hl.2.2.2.2.2 e.symm,t.toSince h.old fun q hq e=>by omega,h.res.turn t fun e=>by omega,Nat.le_trans h.above t.size,Zj h.own t fun q hq e=>?_,fun x hx=>⟨(h.kept x hx).1.turn t fun q hq e=>?_,(h.kept x hx).2⟩,hl⟩
 ·have:=(World.ownsRow.lt h.own q hq).1;omega
 ·have:=(h.kept x hx).2 q hq;omega
theorem YR.grow {v':Value} {xs':List Int} (h:YR w0 mb ib base B0 sv rest cs v xs ks at_ w) (ha:Wf base w' v' xs') (t:Turn (fun q=>v.ownBlock=some q) w w') (f:Nat):YR w0 mb ib base B0 sv rest (cs.setIfInBounds f v') v' xs' ks at_ (w'.setCell ⟨ib,f,none⟩ v'):=by
 have hl:=h.low;have hv:∀ q,v.ownBlock=some q→base≤q:=fun q hq=>(World.ownsRow.lt h.own q hq).1
 have t2:Turn (fun q=>q=ib) w' (w'.setCell ⟨ib,f,none⟩ v'):=(Turn.refl (fun q=>q=ib) w').setCell (p:=⟨ib,f,none⟩) rfl _;have tt:Turn (fun q=>v.ownBlock=some q∨q=ib) w (w'.setCell ⟨ib,f,none⟩ v'):=(t.mono fun q _ h=>.inl h).trans (t2.mono fun q _ h=>.inr h);refine⟨HeapIs.turn (show HeapIs w mb _ _ from h.made) tt fun e=>?_,HeapIs.set (h.box.turn t fun e=>?_) f v',tt.toSince h.old fun q hq e=>?_,h.res.turn tt fun e=>?_,Nat.le_trans h.above tt.size,Zj ha t2 fun q hq e=>?_,fun x hx=>⟨(h.kept x hx).1.turn tt fun q hq e=>?_,(h.kept x hx).2⟩,hl⟩
 ·exact jw
 ·have:=hv _ e;omega
 iterate 2
  ·exact jw
 ·have:=(World.ownsRow.lt ha q hq).1;omega
 ·have h1:=(h.kept x hx).2 q hq;exact jw
theorem YR.next (h:YR w0 mb ib base B0 sv rest cs v xs ks at_ w):YR w0 mb ib w.heap.size B0 sv rest cs (.slice none 0 0) [] ((v,xs)::ks) at_ w:=by
 have hl:=h.low;have hb:=h.above;refine⟨h.made,h.box,h.old,h.res,Nat.le_refl _,XO _ _ _ _,fun x hx=>?_,kT⟩;rcases List.mem_cons.1 hx with rfl|hx
 ·exact⟨ZF h.own,fun q hq=>by have:=World.ownsRow.lt h.own q hq;omega⟩
 ·exact⟨(h.kept x hx).1,fun q hq=>by have:=(h.kept x hx).2 q hq;omega⟩
end
def KK (l:List Int) (w:World) (e:Ending) (w':World):Prop:=∃ i:InV,e=.returned (iv i)∧VX w' i∧i.args=wordsF l 0 4∧i.mem=wordsF l 9 (Zad l)∧i.ans=wordsF l (9+2*Zad l+1) (ZcU l)∧i.steps=300∧Since w w'∧∀ q,i.argsv.ownBlock=some q∨i.memv.ownBlock=some q∨i.ansv.ownBlock=some q→w.heap.size≤q
theorem Zb4 (sv:Value) (l:List Int) (w:World) (hs:Zi w sv l):Calls Tryz.prog 26 #[sv] w (KK l w):=by
 obtain⟨sa,sc,rfl⟩:=Zb hs;generalize hV:l.length=sn at *;clear hV;have HS:=hid hs;clear hs;obtain⟨nm,hI⟩:∃ n,Zad l=n:=⟨_,rfl⟩
 obtain⟨na,hJ⟩:∃ n,ZcU l=n:=⟨_,rfl⟩
 have b1:=Y6 l 8 (n:=13) kS;have b2:=Y6 l (9+2*nm) (n:=7) kS;have e1:takeF l 8 13=(nm:Int)-4:=by unfold Zad at hI;omega
 have e2:takeF l (9+2*nm) 7=na:=by unfold ZcU at hJ;rw[hI]at hJ;omega
 rw[e1]at b1;rw[e2]at b2;have E1:=hid e1;have E2:=hid e2;have hA:=hid hI;have hX:=hid hJ;clear hI hJ e1 e2;obtain⟨w3,hB⟩:∃ x,x=((w.alloc (.cells #[.slice none 0 0,.slice none 0 0,.slice none 0 0,.int .i64 0] 43)).alloc (.cells #[.slice sa sn sc,.int .i64 0,.int .i64 0,.slice none 0 0,.int .i64 0,.slice none 0 0] 111)).alloc (.cells #[.slice none 0 0,.slice none 0 0,.slice none 0 0,.int .i64 300] 43):=⟨_,rfl⟩
 obtain⟨B0,hT⟩:∃ n,n=w3.heap.size:=⟨_,rfl⟩
 have h0:B0=w.heap.size+3:=by rw[hT,hB];simp
 have hh:YR w (w.heap.size+1) (w.heap.size+1+1) B0 B0 (.slice sa sn sc) [.int .i64 0,.slice none 0 0,.int .i64 0,.slice none 0 0] #[.slice none 0 0,.slice none 0 0,.slice none 0 0,.int .i64 300] (.slice none 0 0) (wordsF l 0 0) [] (0+2*0) w3:=by
  refine⟨?_,?_,?_,?_,kT,XO _ _ _ _,fun x hx=>kR,kT⟩
  ·have h1:=HeapIs.new (w.alloc (.cells #[.slice none 0 0,.slice none 0 0,.slice none 0 0,.int .i64 0] 43)) #[.slice sa sn sc,.int .i64 0,.int .i64 0,.slice none 0 0,.int .i64 0,.slice none 0 0] 111;rw[show (w.alloc (.cells #[.slice none 0 0,.slice none 0 0,.slice none 0 0,.int .i64 0] 43)).heap.size=w.heap.size+1 from by simp]at h1;rw[hB];exact HeapIs.keep h1 ((Since.refl _).alloc _)
  ·have h1:=HeapIs.new ((w.alloc (.cells #[.slice none 0 0,.slice none 0 0,.slice none 0 0,.int .i64 0] 43)).alloc (.cells #[.slice sa sn sc,.int .i64 0,.int .i64 0,.slice none 0 0,.int .i64 0,.slice none 0 0] 111)) #[.slice none 0 0,.slice none 0 0,.slice none 0 0,.int .i64 300] 43;rw[show ((w.alloc (.cells #[.slice none 0 0,.slice none 0 0,.slice none 0 0,.int .i64 0] 43)).alloc (.cells #[.slice sa sn sc,.int .i64 0,.int .i64 0,.slice none 0 0,.int .i64 0,.slice none 0 0] 111)).heap.size=w.heap.size+1+1 from by simp]at h1;rw[hB];exact h1
  ·rw[hB];exact (((Since.refl w).alloc _).alloc _).alloc _
  ·rw[hB];exact ((HeapIs.new _ _ _).keep ((Since.refl _).alloc _)).keep ((Since.refl _).alloc _)
 have hb:=hid hh;have hU:=hid hB;clear hh hT hB;go_enter Tryz.func26,Tryz.ntmps26
 go_wp2_with fail
 rw[←hU.out];clear hU
 go_loopw [5] (fun i wr=>∃ (k:Nat) (v:Value),k≤4∧i=.int .i64 k∧YR w (w.heap.size+1) (w.heap.size+1+1) B0 B0 (.slice sa sn sc) [.int .i64 0,.slice none 0 0,.int .i64 0,.slice none 0 0] #[v,.slice none 0 0,.slice none 0 0,.int .i64 300] (v) (wordsF l 0 k) [] (0+2*k) wr) (fun i _=>4-(intOf i).toNat)
 case atStart=>exact⟨0,_,Nat.zero_le _,rfl,hb.out⟩
 case round =>
  obtain⟨k,v,hk,rfl,hh⟩:=hrel;obtain⟨va,vc,hv⟩:=Zf (show wr.ownsRow _ _ _ _ _ _ from hh.own);rw[Y3]at hv;subst hv;have hb:=hid hh;clear hh;by_cases hE:k<4
  ·have hz:=hid (fun w1 (h:YR w (w.heap.size+1) (w.heap.size+1+1) B0 B0 (.slice sa sn sc) [.int .i64 0,.slice none 0 0,.int .i64 0,.slice none 0 0] #[.slice va k vc,.slice none 0 0,.slice none 0 0,.int .i64 300] (.slice va k vc) (wordsF l 0 k) [] (0+2*k) w1)=>VH (.slice sa sn sc) l w1 (w.heap.size+1) (0+2*k) [.int .i64 0,.slice none 0 0,.int .i64 0,.slice none 0 0] h.made (fun w2 t=>HS.out.keep (t.toSince h.old fun q hq e=>by omega)) kT)
   obtain⟨y,hy⟩:∃ y,wordF l (0+2*k)=y:=⟨_,rfl⟩
   rw[hy]at hz;have HY:=hid hy;clear hy;go_wp2_with fail
   try rw[show decide ((k:Int)<(4:Int))=true from decide_eq_true kT]
   refine Ys 5 [3] [0,0,0,0,1] [1,1,0,0,1] [0,0,0,1,0] (fun q=>q=(w.heap.size+1)) (fun p w1=>YR w (w.heap.size+1) (w.heap.size+1+1) B0 B0 (.slice sa sn sc) [.int .i64 0,.slice none 0 0,.int .i64 0,.slice none 0 0] #[.slice va k vc,.slice none 0 0,.slice none 0 0,.int .i64 300] (.slice va k vc) (wordsF l 0 k) [] (0+2*k+(if p=0 then 0 else 2)) w1) rfl kK kK kK kS kK
    [Is (.pointer (some ⟨(w.heap.size+1+1),0,none⟩)),Is (.slice va k vc),Is (.pointer (some ⟨(w.heap.size+1),0,none⟩)),Is (.int .i32 y),Jo (w.heap.size+1) #[.int .i32 y] 21]
    jV (hb.out.keep (Since.refl _).drew) ⟨?_,?_,?_,?_,?_,trivial⟩ ?_
   rotate_right
   ·intro vs w1 ht ha hk;simp only[List.take,List.drop,putAll,Act.put,Zc,Ze,Is,List.setIfInBounds_toArray,List.set_cons_zero,List.set_cons_succ,Nat.reduceAdd]at hk ⊢;try simp only[hk]
    obtain⟨b1,hw,hu,_⟩:=hk.2.2.2.2.1;simp only[hw];have hf:=hid ha;have hA:=zH (Zt .i32 w1 (.slice (some ⟨b1,0,none⟩) 1 1) [y]) (Ja (k:=.i32) (l:=[y]) hu kx);clear ht hk hw hu ha;refine YI (base:=B0) .i32 rfl _ _ 41 rfl 21 (.int .i32 0) 4 Tryz.underlying41 Tryz.info32 rfl kS (.slice va k vc) _ (wordsF l 0 k) [y] rfl rfl hf.out.own hA.out (by rw[Y3];simp;omega) hf.out.above ?_;intro v2 w5 hd hi;rw[←HY.out,←Vq]at hd;obtain⟨a5,c5,hn⟩:=Zf hd;rw[Y3]at hn;subst hn;have hp:=hf.out.grow hd hi 0;have he:=hf.out.box.turn hi (Zm (show w1.ownsRow _ _ _ _ _ _ from hf.out.own) hf.out.box kS);have kc5:w5.cell? ⟨(w.heap.size+1+1),0,none⟩=some (.slice va k vc):=he.cell 0;exact qp
   all_goals
    intro p vs w1 hP hQ ht ha hk;simp only[List.take,putAll,Act.put,Zk,Ze,Is,List.setIfInBounds_toArray,List.set_cons_zero,List.set_cons_succ,Nat.reduceAdd]at hk ⊢;try simp only[hk]
   ·exact jy
   ·have hc:w1.cell? ⟨(w.heap.size+1+1),0,none⟩=some (.slice va k vc):=ha.box.cell 0;exact jh
   ·exact jy
   ·obtain rfl:p=0:=kT
    have hg:YR w (w.heap.size+1) (w.heap.size+1+1) B0 B0 (.slice sa sn sc) [.int .i64 0,.slice none 0 0,.int .i64 0,.slice none 0 0] #[.slice va k vc,.slice none 0 0,.slice none 0 0,.int .i64 300] (.slice va k vc) (wordsF l 0 k) [] (0+2*k) w1:=ha;exact zT
   ·exact z4
  ·obtain rfl:4=k:=kT
   have hj:=hb.out.next;have hb:=hid hj;clear hj hE hk;obtain⟨va1,hN⟩:∃ a,a=va:=⟨_,rfl⟩
   obtain⟨vc1,hL⟩:∃ a,a=vc:=⟨_,rfl⟩
   rw[←hN,←hL]at hb;clear hN hL;have hF:Hid (Calls Tryz.prog 55 _ wr (QE wr (w.heap.size+1) (.slice sa sn sc) (8) 1 [.int .i64 0,.slice none 0 0,.int .i64 0,.slice none 0 0] (.int .i64 (takeF l (8) 13)))):=hid (WV (.slice sa sn sc) l wr (w.heap.size+1) (8) [.int .i64 0,.slice none 0 0,.int .i64 0,.slice none 0 0] 13 hb.out.made (HS.out.keep hb.out.old) kT kS);rw[E1.out]at hF;go_wp2_with fail
   refine hF.out.mono ?_;rintro e w8 ⟨rfl,hD,t8,_⟩;have h8:=hb.out.take hD t8;obtain⟨B2,hS⟩:∃ n,n=wr.heap.size:=⟨_,rfl⟩
   rw[←hS]at h8;clear hS;have hb:Hid (YR w (w.heap.size+1) (w.heap.size+1+1) B2 B0 (.slice sa sn sc) [.int .i64 0,.slice none 0 0,.int .i64 0,.slice none 0 0] #[.slice va1 4 vc1,.slice none 0 0,.slice none 0 0,.int .i64 300] (.slice none 0 0) (wordsF l 9 0) _ (9+2*0) w8):=hid h8;clear hD t8 h8;go_wp2_with fail
   try rw[show (4:Int)+((nm:Int)-4)=nm from by omega]
   go_loopw [7] (fun i wr=>∃ (k:Nat) (v:Value),k≤nm∧i=.int .i64 k∧YR w (w.heap.size+1) (w.heap.size+1+1) B2 B0 (.slice sa sn sc) [.int .i64 0,.slice none 0 0,.int .i64 0,.slice none 0 0] #[.slice va1 4 vc1,v,.slice none 0 0,.int .i64 300] (v) (wordsF l 9 k) [(.slice va1 4 vc1,wordsF l 0 4)] (9+2*k) wr) (fun i _=>nm-(intOf i).toNat)
   case atStart=>exact⟨0,_,Nat.zero_le _,rfl,hb.out⟩
   case round =>
    obtain⟨k,v,hk,rfl,hh⟩:=hrel;obtain⟨va,vc,hv⟩:=Zf (show wr.ownsRow _ _ _ _ _ _ from hh.own);rw[Y3]at hv;subst hv;have hb:=hid hh;clear hh;by_cases hE:k<nm
    ·have hz:=hid (fun w1 (h:YR w (w.heap.size+1) (w.heap.size+1+1) B2 B0 (.slice sa sn sc) [.int .i64 0,.slice none 0 0,.int .i64 0,.slice none 0 0] #[.slice va1 4 vc1,.slice va k vc,.slice none 0 0,.int .i64 300] (.slice va k vc) (wordsF l 9 k) [(.slice va1 4 vc1,wordsF l 0 4)] (9+2*k) w1)=>VH (.slice sa sn sc) l w1 (w.heap.size+1) (9+2*k) [.int .i64 0,.slice none 0 0,.int .i64 0,.slice none 0 0] h.made (fun w2 t=>HS.out.keep (t.toSince h.old fun q hq e=>by omega)) kT)
     obtain⟨y,hy⟩:∃ y,wordF l (9+2*k)=y:=⟨_,rfl⟩
     rw[hy]at hz;have HY:=hid hy;clear hy;go_wp2_with fail
     try rw[show decide ((k:Int)<(nm:Int))=true from decide_eq_true kT]
     refine Ys 5 [3] [0,0,0,0,1] [1,1,0,0,1] [0,0,0,1,0] (fun q=>q=(w.heap.size+1)) (fun p w1=>YR w (w.heap.size+1) (w.heap.size+1+1) B2 B0 (.slice sa sn sc) [.int .i64 0,.slice none 0 0,.int .i64 0,.slice none 0 0] #[.slice va1 4 vc1,.slice va k vc,.slice none 0 0,.int .i64 300] (.slice va k vc) (wordsF l 9 k) [(.slice va1 4 vc1,wordsF l 0 4)] (9+2*k+(if p=0 then 0 else 2)) w1) rfl kK kK kK kS kK
      [Is (.pointer (some ⟨(w.heap.size+1+1),1,none⟩)),Is (.slice va k vc),Is (.pointer (some ⟨(w.heap.size+1),0,none⟩)),Is (.int .i32 y),Jo (w.heap.size+1) #[.int .i32 y] 21]
      jV (hb.out.keep (Since.refl _).drew) ⟨?_,?_,?_,?_,?_,trivial⟩ ?_
     rotate_right
     ·intro vs w1 ht ha hk;simp only[List.take,List.drop,putAll,Act.put,Zc,Ze,Is,List.setIfInBounds_toArray,List.set_cons_zero,List.set_cons_succ,Nat.reduceAdd]at hk ⊢;try simp only[hk]
      obtain⟨b1,hw,hu,_⟩:=hk.2.2.2.2.1;simp only[hw];have hf:=hid ha;have hA:=zH (Zt .i32 w1 (.slice (some ⟨b1,0,none⟩) 1 1) [y]) (Ja (k:=.i32) (l:=[y]) hu kx);clear ht hk hw hu ha;refine YI (base:=B2) .i32 rfl _ _ 41 rfl 21 (.int .i32 0) 4 Tryz.underlying41 Tryz.info32 rfl kS (.slice va k vc) _ (wordsF l 9 k) [y] rfl rfl hf.out.own hA.out (by rw[Y3];simp;omega) hf.out.above ?_;intro v2 w5 hd hi;rw[←HY.out,←Vq]at hd;obtain⟨a5,c5,hn⟩:=Zf hd;rw[Y3]at hn;subst hn;have hp:=hf.out.grow hd hi 1;have he:=hf.out.box.turn hi (Zm (show w1.ownsRow _ _ _ _ _ _ from hf.out.own) hf.out.box kS);have kc5:w5.cell? ⟨(w.heap.size+1+1),1,none⟩=some (.slice va k vc):=he.cell 1;exact qp
     all_goals
      intro p vs w1 hP hQ ht ha hk;simp only[List.take,putAll,Act.put,Zk,Ze,Is,List.setIfInBounds_toArray,List.set_cons_zero,List.set_cons_succ,Nat.reduceAdd]at hk ⊢;try simp only[hk]
     ·exact jy
     ·have hc:w1.cell? ⟨(w.heap.size+1+1),1,none⟩=some (.slice va k vc):=ha.box.cell 1;exact jh
     ·exact jy
     ·obtain rfl:p=0:=kT
      have hg:YR w (w.heap.size+1) (w.heap.size+1+1) B2 B0 (.slice sa sn sc) [.int .i64 0,.slice none 0 0,.int .i64 0,.slice none 0 0] #[.slice va1 4 vc1,.slice va k vc,.slice none 0 0,.int .i64 300] (.slice va k vc) (wordsF l 9 k) [(.slice va1 4 vc1,wordsF l 0 4)] (9+2*k) w1:=ha;exact zT
     ·exact z4
    ·obtain rfl:nm=k:=kT
     have hj:=hb.out.next;have hb:=hid hj;clear hj hE hk;obtain⟨va2,hM⟩:∃ a,a=va:=⟨_,rfl⟩
     obtain⟨vc2,hK⟩:∃ a,a=vc:=⟨_,rfl⟩
     rw[←hM,←hK]at hb;clear hM hK;have hF:Hid (Calls Tryz.prog 55 _ wr (QE wr (w.heap.size+1) (.slice sa sn sc) (9+2*nm) 1 [.int .i64 0,.slice none 0 0,.int .i64 0,.slice none 0 0] (.int .i64 (takeF l (9+2*nm) 7)))):=hid (WV (.slice sa sn sc) l wr (w.heap.size+1) (9+2*nm) [.int .i64 0,.slice none 0 0,.int .i64 0,.slice none 0 0] 7 hb.out.made (HS.out.keep hb.out.old) kT kS);rw[E2.out]at hF;go_wp2_with fail
     refine hF.out.mono ?_;rintro e w8 ⟨rfl,hD,t8,_⟩;have h8:=hb.out.take hD t8;obtain⟨B3,hR⟩:∃ n,n=wr.heap.size:=⟨_,rfl⟩
     rw[←hR]at h8;clear hR;have hb:Hid (YR w (w.heap.size+1) (w.heap.size+1+1) B3 B0 (.slice sa sn sc) [.int .i64 0,.slice none 0 0,.int .i64 0,.slice none 0 0] #[.slice va1 4 vc1,.slice va2 nm vc2,.slice none 0 0,.int .i64 300] (.slice none 0 0) (wordsF l (9+2*nm+1) 0) _ ((9+2*nm+1)+2*0) w8):=hid h8;clear hD t8 h8;go_wp2_with fail
     go_loopw [8] (fun i wr=>∃ (k:Nat) (v:Value),k≤na∧i=.int .i64 k∧YR w (w.heap.size+1) (w.heap.size+1+1) B3 B0 (.slice sa sn sc) [.int .i64 0,.slice none 0 0,.int .i64 0,.slice none 0 0] #[.slice va1 4 vc1,.slice va2 nm vc2,v,.int .i64 300] (v) (wordsF l (9+2*nm+1) k) [(.slice va2 nm vc2,wordsF l 9 nm),(.slice va1 4 vc1,wordsF l 0 4)] ((9+2*nm+1)+2*k) wr) (fun i _=>na-(intOf i).toNat)
     case atStart=>exact⟨0,_,Nat.zero_le _,rfl,hb.out⟩
     case round =>
      obtain⟨k,v,hk,rfl,hh⟩:=hrel;obtain⟨va,vc,hv⟩:=Zf (show wr.ownsRow _ _ _ _ _ _ from hh.own);rw[Y3]at hv;subst hv;have hb:=hid hh;clear hh;by_cases hE:k<na
      ·have hz:=hid (fun w1 (h:YR w (w.heap.size+1) (w.heap.size+1+1) B3 B0 (.slice sa sn sc) [.int .i64 0,.slice none 0 0,.int .i64 0,.slice none 0 0] #[.slice va1 4 vc1,.slice va2 nm vc2,.slice va k vc,.int .i64 300] (.slice va k vc) (wordsF l (9+2*nm+1) k) [(.slice va2 nm vc2,wordsF l 9 nm),(.slice va1 4 vc1,wordsF l 0 4)] ((9+2*nm+1)+2*k) w1)=>VH (.slice sa sn sc) l w1 (w.heap.size+1) ((9+2*nm+1)+2*k) [.int .i64 0,.slice none 0 0,.int .i64 0,.slice none 0 0] h.made (fun w2 t=>HS.out.keep (t.toSince h.old fun q hq e=>by omega)) kT)
       obtain⟨y,hy⟩:∃ y,wordF l ((9+2*nm+1)+2*k)=y:=⟨_,rfl⟩
       rw[hy]at hz;have HY:=hid hy;clear hy;go_wp2_with fail
       try rw[show decide ((k:Int)<(na:Int))=true from decide_eq_true kT]
       refine Ys 5 [3] [0,0,0,0,1] [1,1,0,0,1] [0,0,0,1,0] (fun q=>q=(w.heap.size+1)) (fun p w1=>YR w (w.heap.size+1) (w.heap.size+1+1) B3 B0 (.slice sa sn sc) [.int .i64 0,.slice none 0 0,.int .i64 0,.slice none 0 0] #[.slice va1 4 vc1,.slice va2 nm vc2,.slice va k vc,.int .i64 300] (.slice va k vc) (wordsF l (9+2*nm+1) k) [(.slice va2 nm vc2,wordsF l 9 nm),(.slice va1 4 vc1,wordsF l 0 4)] ((9+2*nm+1)+2*k+(if p=0 then 0 else 2)) w1) rfl kK kK kK kS kK
        [Is (.pointer (some ⟨(w.heap.size+1+1),2,none⟩)),Is (.slice va k vc),Is (.pointer (some ⟨(w.heap.size+1),0,none⟩)),Is (.int .i32 y),Jo (w.heap.size+1) #[.int .i32 y] 21]
        jV (hb.out.keep (Since.refl _).drew) ⟨?_,?_,?_,?_,?_,trivial⟩ ?_
       rotate_right
       ·intro vs w1 ht ha hk;simp only[List.take,List.drop,putAll,Act.put,Zc,Ze,Is,List.setIfInBounds_toArray,List.set_cons_zero,List.set_cons_succ,Nat.reduceAdd]at hk ⊢;try simp only[hk]
        obtain⟨b1,hw,hu,_⟩:=hk.2.2.2.2.1;simp only[hw];have hf:=hid ha;have hA:=zH (Zt .i32 w1 (.slice (some ⟨b1,0,none⟩) 1 1) [y]) (Ja (k:=.i32) (l:=[y]) hu kx);clear ht hk hw hu ha;refine YI (base:=B3) .i32 rfl _ _ 41 rfl 21 (.int .i32 0) 4 Tryz.underlying41 Tryz.info32 rfl kS (.slice va k vc) _ (wordsF l (9+2*nm+1) k) [y] rfl rfl hf.out.own hA.out (by rw[Y3];simp;omega) hf.out.above ?_;intro v2 w5 hd hi;rw[←HY.out,←Vq]at hd;obtain⟨a5,c5,hn⟩:=Zf hd;rw[Y3]at hn;subst hn;have hp:=hf.out.grow hd hi 2;have he:=hf.out.box.turn hi (Zm (show w1.ownsRow _ _ _ _ _ _ from hf.out.own) hf.out.box kS);have kc5:w5.cell? ⟨(w.heap.size+1+1),2,none⟩=some (.slice va k vc):=he.cell 2;exact qp
       all_goals
        intro p vs w1 hP hQ ht ha hk;simp only[List.take,putAll,Act.put,Zk,Ze,Is,List.setIfInBounds_toArray,List.set_cons_zero,List.set_cons_succ,Nat.reduceAdd]at hk ⊢;try simp only[hk]
       ·exact jy
       ·have hc:w1.cell? ⟨(w.heap.size+1+1),2,none⟩=some (.slice va k vc):=ha.box.cell 2;exact jh
       ·exact jy
       ·obtain rfl:p=0:=kT
        have hg:YR w (w.heap.size+1) (w.heap.size+1+1) B3 B0 (.slice sa sn sc) [.int .i64 0,.slice none 0 0,.int .i64 0,.slice none 0 0] #[.slice va1 4 vc1,.slice va2 nm vc2,.slice va k vc,.int .i64 300] (.slice va k vc) (wordsF l (9+2*nm+1) k) [(.slice va2 nm vc2,wordsF l 9 nm),(.slice va1 4 vc1,wordsF l 0 4)] ((9+2*nm+1)+2*k) w1:=ha;exact zT
       ·exact z4
      ·obtain rfl:na=k:=kT
       have hj:=hb.out.next;have hb:=hid hj;clear hj hE hk;have hm:=hb.out;have HF:=hid hm;have c0:=hm.box.cell 0;have c1:=hm.box.cell 1;have c2:=hm.box.cell 2;have c3:=hm.box.cell 3;have cl:=hm.box.lt;clear hm;go_wp2_with (refine wpList_store_row rfl 43 _ _ rfl w.heap.size #[.slice va1 4 vc1,.slice va2 nm vc2,.slice va na vc,.int .i64 300] rfl rfl 43 _ HF.out.res kO rfl (by rw[←Array.all_toList];rfl) ?_)
       have he:=Xl HF.out.res #[.slice va1 4 vc1,.slice va2 nm vc2,.slice va na vc,.int .i64 300];have t5:Turn (fun q=>q=w.heap.size) wr (wr.setRow w.heap.size #[.slice va1 4 vc1,.slice va2 nm vc2,.slice va na vc,.int .i64 300]):=Xg (S:=fun q=>q=w.heap.size) rfl _;generalize wr.setRow w.heap.size #[.slice va1 4 vc1,.slice va2 nm vc2,.slice va na vc,.int .i64 300]=w5 at *;have he:HeapIs w5 w.heap.size #[.slice va1 4 vc1,.slice va2 nm vc2,.slice va na vc,.int .i64 300] 43:=he;have e0:=he.cell 0;have e1:=he.cell 1;have e2:=he.cell 2;have e3:=he.cell 3;have hZ:=he.lt;have ho:VX w5 ⟨wordsF l 0 4,.slice va1 4 vc1,wordsF l 9 nm,.slice va2 nm vc2,wordsF l (9+2*nm+1) na,.slice va na vc,300⟩:=by
        have hk:=HF.out.kept;have hY:=HF.out.low;have g1:=hk (.slice va na vc,wordsF l (9+2*nm+1) na) kU;have g2:=hk (.slice va2 nm vc2,wordsF l 9 nm) kU;have g3:=hk (.slice va1 4 vc1,wordsF l 0 4) kU;exact⟨⟨g3.1.turn t5 fun q hq e=>(by have:=g3.2 q hq;omega),g2.1.turn t5 fun q hq e=>(by have:=g2.2 q hq;omega),g1.1.turn t5 fun q hq e=>(by have:=g1.2 q hq;omega)⟩,⟨V2 _ _ _,V2 _ _ _,V2 _ _ _⟩,(by show (300:Int)≤1000000;decide)⟩
       have hO:Since w w5:=t5.toSince HF.out.old fun q hq e=>by omega
       have hW:∀ q,Value.ownBlock (.slice va1 4 vc1)=some q∨Value.ownBlock (.slice va2 nm vc2)=some q∨Value.ownBlock (.slice va na vc)=some q→w.heap.size≤q:=fun q hq=>by
        have hk:=HF.out.kept;rcases hq with hq|hq|hq
        ·have:=(hk (.slice va1 4 vc1,wordsF l 0 4) kU).2 q hq;omega
        ·have:=(hk (.slice va2 nm vc2,wordsF l 9 nm) kU).2 q hq;omega
        ·have:=(hk (.slice va na vc,wordsF l (9+2*nm+1) na) kU).2 q hq;omega
       have HO:=hid (And.intro ho (And.intro hO hW));clear he t5 ho hO;go_wp2
       exact bodyPost_ret (v:=.agg #[.slice va1 4 vc1,.slice va2 nm vc2,.slice va na vc,.int .i64 300]) (by simp[results,Tryz.results26,go_sem,e0,e1,e2,e3]) rfl ⟨_,rfl,HO.out.1,rfl,by rw[hA.out],by rw[hA.out,hX.out],rfl,HO.out.2.1,HO.out.2.2⟩
theorem Q7 (sv:Value) (l:List Int) (w:World) (hs:Zi w sv l):Calls Tryz.prog 12 #[sv] w (KK (l.take 40) w):=by
 obtain⟨sa,sc,rfl⟩:=Zb hs;have hx:l.length≤sc:=(Xp hs).2.1;have hw:sc≤9223372036854775807:=(Xp hs).2.2;obtain⟨m,hm⟩:∃ m,m=min l.length 40:=⟨_,rfl⟩
 have ho:l.take 40=l.take m:=by rw[hm,Nat.min_comm,←List.take_take,List.take_length]
 have hp:=fun w1 (h:Since w w1)=>Zb4 (.slice sa m sc) (l.take m) w1 (V8 (hs.keep h) m kT)
 rw[ho];generalize hL:l.take m=L at *;generalize hu:l.length=n at *;have hy:m≤n:=kT
 have ht:(min (n:Int) 40)=(m:Int):=kT
 have hr:=hid hp;clear hp hs hL hu ho ht;by_cases hA:n≤40
 ·obtain rfl:n=m:=kT
  exact ze
 ·obtain rfl:40=m:=kT
  exact ze
theorem Zb0 (sv:Value) (l:List Int) (w:World) (hs:Zi w sv l) (ht:∀ q,sv.ownBlock=some q→q<w.heap.size) :
  Calls Tryz.prog 8 #[sv] w (fun e w'=>∃ p:Z2,e=.returned (pv p)∧(4≤p.k∧p.k≤16)∧YF w.heap.size w' p∧Since w w'):=by
 obtain⟨sa,sc,rfl⟩:=Zb hs;have hE:l.length≤sc:=(Xp hs).2.1;have hD:sc≤9223372036854775807:=(Xp hs).2.2;obtain⟨m,hm⟩:∃ m,m=min l.length 200:=⟨_,rfl⟩
 have hk:∀ q,(Value.slice sa m sc).ownBlock=some q→q<w.heap.size:=by
  intro q hq;apply ht
  cases sa<;>exact hq
 have hu:=fun w1 (h:Since w w1)=>Za9 (.slice sa m sc) (l.take m) w1 (V8 (hs.keep h) m kT) (fun q hq=>Nat.lt_of_lt_of_le (hk q hq) h.size) (by rw[List.length_take];omega)
 generalize hL:l.take m=L at *;generalize hC:l.length=n at *;have hF:m≤n:=kT
 have hv:=hid hu;clear hu hs ht hk hL hC;by_cases hG:n≤200
 ·obtain rfl:n=m:=kT
  exact zg
 ·obtain rfl:200=m:=kT
  exact zg
end Go.Proofs.YtimpddecdodddaaGreat
