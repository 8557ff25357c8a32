import Derived.Test.YtimpddecdodddaaGreatSt20
namespace Go.Proofs.YtimpddecdodddaaGreat
open Go.Proofs.Tryz Go.RowKit Go.Lib
set_option linter.unusedVariables false
set_option maxHeartbeats 2000000
set_option maxRecDepth 100000
theorem qO {P:Prop} (h:P:=by
 clear hk;refine wpList_load_row rfl _ _ rfl tb rfl 175 _ (0,0) _ hB underlying175 rfl (by kernel_rfl) ?_;go_wp2
 exact⟨_,rfl,rfl,.refl _⟩):P:=h
theorem qP {P:Prop} (h:P:=by
 clear hk;refine wpList_load_row rfl _ _ rfl tb rfl 175 _ (0,0) _ hn underlying175 rfl (by kernel_rfl) ?_;go_wp2
 exact⟨_,rfl,rfl,.refl _⟩):P:=h
theorem yh {P:Prop} (h:P:=by
 have hc:w30.cell? ⟨mb,3,none⟩=some (.slice (some ⟨bb,0,none⟩) nb nb):=hd.cell 3;have hl:=hd.lt;clear hd;go_wp2
 exact⟨_,rfl,rfl,.refl _⟩):P:=h
theorem yj {P:Prop} (h:P:=by
 have hc:w30.cell? ⟨mb,3,none⟩=some (.slice (some ⟨bb,0,none⟩) nb nb):=hg.cell 3;have hl:=hg.lt;clear hg;go_wp2
 exact⟨_,rfl,rfl,.refl _⟩):P:=h
theorem jb {P:Prop} (h:P:=by
 rintro q (hq|hq)
 ·exact⟨.inl hq,by have:=(h.aside q hq).1;omega⟩
 ·exact⟨.inr (by omega),by omega⟩):P:=h
theorem kK {P:Prop} (h:P:=by
 go_wp2
 go_end0
 exact HF.out):P:=h
theorem k9 {P:Prop} (h:P:=by first | rfl | (simp[Value.oneCell'])):P:=h
def CT (C:Nat→Prop) (tb q:Nat):Prop:=C q∨q=tb
structure MvT (mb:Nat) (bv:Value) (w:World) (m:Zm) (w':World) (m':Zm) (a n i b:Nat) (t:YP):Prop where
 turn:Zb (Own mb bv m) w w'
 new:∀ q,Own mb bv m' q→Own mb bv m q∨w.heap.size≤q
 at_:m'.at_≤m.at_+a
 next:m.next≤m'.next∧m'.next≤m.next+n
 total:m'.total≤m.total+i
 live:m'.live.length≤m.live.length+2*i
 params:m'.params=m.params
 same:∃ k,m.bks[b]? = some k∧m'.bks.map skel=(m.bks.map skel).set b (k.phis,k.phv,t)
def Qw (C:Nat→Prop) (mb:Nat) (bv sv:Value) (l:List Int) (w:World) (m:Zm) (b:Nat) (tol:List Int) (e:Ending) (w':World):Prop:=
 ∃ m' t,e=.returned (.tuple #[])∧MkOk C mb bv sv l m' w'∧MvT mb bv w m w' m' 13 3 3 b t∧t.to=tol∧Y7 m'.next m.bks.length t
section
variable {C : Nat→Prop} {mb:Nat} {bv sv:Value} {l : List Int} {m m':Zm} {w w':World}
theorem Wu {wn w2:World} {mn:Zm} {tb b bb:Nat} {k : Zt} {a n i:Nat} {t : YP} {tol:List Int} (hn:MkOk (CT C tb) mb bv sv l mn wn) (hv:Mv mb bv w m wn mn a n i) (ha:a≤13) (ho:n≤3) (hi:i≤3) (hs:Since wn w2) (hk:mn.bks[b]? = some k) (hf:bv.ownBlock=some bb)
  (ht:Ww wn t∧Stays (ZE (CT C tb) mb bv mn) wn t.argsv∧Stays (ZE (CT C tb) mb bv mn) wn t.tov) (hh:t.to=tol) (hg:Y7 mn.next m.bks.length t) :
  Qw C mb bv sv l w m b tol (.returned (.tuple #[])) (w2.setCells bb (b*6+2) [.int .i64 t.kind,t.argsv,t.tov,.int .i32 t.imm]):=by
 have h2:=(hn.keep hs).setTerm hk hf t ⟨ht.1.keep hs,ht.2.1.keep hs,ht.2.2.keep hs⟩;obtain⟨h3,h4,h5⟩:=h2;have hb:=hv.keep hs;have hm:Own mb bv mn bb:=.inr (.inl hf);refine⟨_,t,rfl,h3.swapC (Zb.refl (fun _=>False) _) (fun q _ e=>e.elim) (fun q hq=>⟨.inl (.inl hq),(h3.aside q (.inl hq)).1⟩),⟨?_,?_,by have:=hb.at_;show mn.at_≤_;omega,by have:=hb.next;show m.next≤mn.next∧mn.next≤_;omega,?_,by have:=hb.live;show mn.live.length≤_;omega,hb.same.1,?_⟩,hh,hg⟩
 ·have hz:=hb.turn.size;have e1:Zb (fun q=>Own mb bv m q∨w.heap.size≤q) w w2:=hb.turn.mono fun _ _ h=>.inl h
  have e2:Zb (fun q=>Own mb bv m q∨w.heap.size≤q) w2 _:=h4.mono fun q _ hq=>hb.new q (hq ▸ hm)
  refine (e1.trans e2).mono fun q hq hs=>?_
  exact kD
 ·intro q hq;rcases h5 q hq with h6|h6
  ·exact hb.new q h6
  ·have:=hb.turn.size;exact .inr zaK
 ·have:Zm.total { mn with bks:=mn.bks.set b { k with term:=t } }=mn.total:=by
   unfold Zm.total;dsimp only;congr 1
   rw[List.map_set];apply List.ext_getElem?
   intro j;rw[List.getElem?_set];by_cases hj:b=j
   ·subst hj;rw[if_pos rfl,List.getElem?_map,hk];have hd:b<mn.bks.length:=(List.getElem?_eq_some_iff.1 hk).1;rw[if_pos (by simpa using hd)];rfl
   ·rw[if_neg hj]
  rw[this];have:=hb.total;omega
 ·have hd:b<mn.bks.length:=(List.getElem?_eq_some_iff.1 hk).1;have hc:mn.bks.map skel=m.bks.map skel:=hb.same.2;have h6:(mn.bks.map skel)[b]? = some (skel k):=by rw[List.getElem?_map,hk];rfl
  rw[hc,List.getElem?_map]at h6;obtain⟨k0,hl,he⟩:=Option.map_eq_some_iff.1 h6;refine⟨k0,hl,?_⟩;show (mn.bks.set b _).map skel=_
  rw[List.map_set,hc];have e1:k0.phis=k.phis:=congrArg (·.1) he;have e2:k0.phv=k.phv:=congrArg (·.2.1) he;rw[e1,e2];rfl
theorem Zbb (h:MkOk C mb bv sv l m w) (hs:Sm 10 m) (b:Nat) (hb:b<m.bks.length) (tov:Value) (tol:List Int) (hr:Zd w tov tol∧Stays (ZE C mb bv m) w tov) (hD:∀ x∈tol,1≤x∧x<(m.bks.length:Int)) (hE:tol.length=0) :
  Calls prog 112 #[.pointer (some ⟨mb,0,none⟩),.int .i64 b,tov] w (Qw C mb bv sv l w m b tol):=by
 obtain⟨nb,hI⟩:∃ n,m.bks.length=n:=⟨_,rfl⟩
 obtain⟨bb,hN⟩:∃ bb,bv=.slice (some ⟨bb,0,none⟩) nb nb:=by
  rcases h.bks with ⟨_,h2⟩|⟨bb,h1,_⟩
  ·rw[h2]at hb;simp at hb
  ·exact⟨bb,by rw[←hI];exact h1⟩
 subst hN;obtain⟨ta,tc,hC⟩:=Zc hr.1;obtain⟨tl,hF⟩:∃ n,tol.length=n:=⟨_,rfl⟩
 rw[hF]at hC hE;subst hC;obtain⟨tb,hv⟩:∃ q,q=w.heap.size:=⟨_,rfl⟩
 obtain⟨w1,hj⟩:∃ x,x=w.alloc (.cells #[.int .i64 4,.slice none 0 0,.slice none 0 0,.int .i32 0] 175):=⟨_,rfl⟩
 have hm:Since w w1:=by rw[hj];exact (Since.refl _).alloc _
 have hM:w1.heap.size=w.heap.size+1:=by rw[hj];simp
 obtain⟨m1,hz⟩:∃ x,x=m:=⟨_,rfl⟩
 have hK:∀ q,CT C tb q→(C q∨w.heap.size≤q)∧q<w1.heap.size:=by
  exact jb
 have H1:=hid (h.swapC (Zb.since (S:=fun _=>False) hm) (fun q _ e=>e.elim) hK);have MV1:=hid ((Mv.refl mb (.slice (some ⟨bb,0,none⟩) nb nb) w m).keep hm);have SM1:=hid hs;have TB1:=zH (HeapIs w1 tb #[.int .i64 4,.slice none 0 0,.slice none 0 0,.int .i32 0] 175∧¬ Own mb (.slice (some ⟨bb,0,none⟩) nb nb) m tb) ⟨by rw[hj,hv];exact HeapIs.new _ _ _,fun h1=>by have:=h.ltOwn h1;omega⟩;have TO1:=hid (show Zd w1 (.slice ta tl tc) tol∧Stays (ZE (CT C tb) mb (.slice (some ⟨bb,0,none⟩) nb nb) m) w1 (.slice ta tl tc) from⟨hr.1.keep hm,hr.2.mono (by
  rintro q (hq|hq|hq)
  ·exact .inl (.inl hq)
  ·exact .inl (.inr hq)
  ·exact .inr zaK) hm.size⟩)
 have hB:=zH (w.heap.size≤tb) zaK;have HB:=hid hb;have hW:=hid hD;have ht:=hid hF;have hg:=hid hI;rw[←hz]at H1 SM1 TB1 TO1;have MV1:=zH (Mv mb _ w m w1 m1 0 0 0) (by rw[hz];exact MV1.out);have HB:=zH (b<m.bks.length) HB.out;have nx1:0≤m1.next:=H1.out.next0;subst hE;have hX:=zH (tol=[]) (List.length_eq_zero_iff.1 ht.out);clear h hs hb hr hD hK hz;go_enter func112,ntmps112
 go_wp2_with fail
 rw[←hv,←hj];clear hj hM hm hv;refine (ZF H1.out 8 zaJ (by have:=SM1.out.1;omega)).mono ?_;rintro e w2 ⟨m2,⟨kk,rfl,⟨hP,hO⟩,hJ⟩,h2,mv2⟩;have H2:=hid h2;have MV2:=hid (MV1.out.trans mv2);have SM2:=hid (SM1.out.mv mv2);have nx2:m1.next≤m2.next:=by rw[hJ];exact Int.le_refl _
 clear hJ;have TB2:=hid (mv2.carry TB1.out);have TO2:=zH (Zd _ _ _∧Stays _ _ _) ⟨mv2.nums TO1.out.1 TO1.out.2,mv2.stays TO1.out.2⟩;clear h2 mv2;by_cases hA:kk=0
 ·subst hA;have kl2:=TB2.out.1.lt;have kf2:=TB2.out.1.frozen;have kc2_0:w2.cell? ⟨tb,0,none⟩=some (.int .i64 4):=TB2.out.1.cell 0;have kc2_1:w2.cell? ⟨tb,1,none⟩=some (.slice none 0 0):=TB2.out.1.cell 1;have kc2_2:w2.cell? ⟨tb,2,none⟩=some (.slice none 0 0):=TB2.out.1.cell 2;have kc2_3:w2.cell? ⟨tb,3,none⟩=some (.int .i32 0):=TB2.out.1.cell 3;go_wp2_with fail
  obtain⟨w3,hp⟩:∃ x,x=(w2.setCell ⟨tb,0,none⟩ (.int .i64 5)):=⟨_,rfl⟩
  rw[←hp];have t3:Zb (fun q=>q=tb) w2 w3:=by rw[hp];exact ((Zb.refl (fun q=>q=tb) w2).setCell (p:=⟨tb,0,none⟩) rfl (.int .i64 5))
  obtain⟨m3,hx⟩:∃ x,x=m2:=⟨_,rfl⟩
  have H3:=hid (H2.out.besides t3 (fun q _ e=>.inr e));have MV3:=hid (MV2.out.beside t3 (fun q hq e=>by have h9:q=tb:=e;have:=hB.out;omega));have SM3:=SM2;have TB3:=zH (HeapIs w3 tb #[.int .i64 5,.slice none 0 0,.slice none 0 0,.int .i32 0] 175∧¬ Own mb (.slice (some ⟨bb,0,none⟩) nb nb) m2 tb) ⟨(by rw[hp];exact (TB2.out.1.set 0 (.int .i64 5))),TB2.out.2⟩;have TO3:=zH (Zd _ _ _∧Stays (ZE (CT C tb) mb (.slice (some ⟨bb,0,none⟩) nb nb) m2) _ _) ⟨TO2.out.1.turn t3 fun q hq e=>(TO2.out.2 q hq).1 (.inr (.inr e)),TO2.out.2.mono (fun _ h=>.inl h) t3.size⟩;rw[←hx]at H3 MV3 SM3 TB3 TO3;have nx3:m2.next≤m3.next:=by rw[hx];exact Int.le_refl _
  clear hp hx t3 kf2 kl2 kc2_0 kc2_1 kc2_2 kc2_3;refine (ZF H3.out 200 zaJ (by have:=SM3.out.1;omega)).mono ?_;rintro e w4 ⟨m4,⟨u,rfl,⟨hT,hS⟩,hf⟩,h4,mv4⟩;have H4:=hid h4;have MV4:=hid (MV3.out.trans mv4);have SM4:=hid (SM3.out.mv mv4);have nx4:m3.next≤m4.next:=by rw[hf];exact Int.le_refl _
  clear hf;have TB4:=hid (mv4.carry TB3.out);have TO4:=zH (Zd _ _ _∧Stays _ _ _) ⟨mv4.nums TO3.out.1 TO3.out.2,mv4.stays TO3.out.2⟩;clear h4 mv4;have kl4:=TB4.out.1.lt;have kf4:=TB4.out.1.frozen;have kc4_0:w4.cell? ⟨tb,0,none⟩=some (.int .i64 5):=TB4.out.1.cell 0;have kc4_1:w4.cell? ⟨tb,1,none⟩=some (.slice none 0 0):=TB4.out.1.cell 1;have kc4_2:w4.cell? ⟨tb,2,none⟩=some (.slice none 0 0):=TB4.out.1.cell 2;have kc4_3:w4.cell? ⟨tb,3,none⟩=some (.int .i32 0):=TB4.out.1.cell 3;go_wp2_with fail
  obtain⟨w5,ho⟩:∃ x,x=(w4.setCell ⟨tb,3,none⟩ (.int .i32 u)):=⟨_,rfl⟩
  rw[←ho];have t5:Zb (fun q=>q=tb) w4 w5:=by rw[ho];exact ((Zb.refl (fun q=>q=tb) w4).setCell (p:=⟨tb,3,none⟩) rfl (.int .i32 u))
  obtain⟨m5,hw⟩:∃ x,x=m4:=⟨_,rfl⟩
  have H5:=hid (H4.out.besides t5 (fun q _ e=>.inr e));have MV5:=hid (MV4.out.beside t5 (fun q hq e=>by have h9:q=tb:=e;have:=hB.out;omega));have SM5:=SM4;have TB5:=zH (HeapIs w5 tb #[.int .i64 5,.slice none 0 0,.slice none 0 0,.int .i32 u] 175∧¬ Own mb (.slice (some ⟨bb,0,none⟩) nb nb) m4 tb) ⟨(by rw[ho];exact (TB4.out.1.set 3 (.int .i32 u))),TB4.out.2⟩;have TO5:=zH (Zd _ _ _∧Stays (ZE (CT C tb) mb (.slice (some ⟨bb,0,none⟩) nb nb) m4) _ _) ⟨TO4.out.1.turn t5 fun q hq e=>(TO4.out.2 q hq).1 (.inr (.inr e)),TO4.out.2.mono (fun _ h=>.inl h) t5.size⟩;rw[←hw]at H5 MV5 SM5 TB5 TO5;have nx5:m4.next≤m5.next:=by rw[hw];exact Int.le_refl _
  clear ho hw t5 kf4 kl4 kc4_0 kc4_1 kc4_2 kc4_3;obtain⟨kb,he⟩:∃ k,m5.bks[b]? = some k:=⟨_,List.getElem?_eq_getElem (by rw[MV5.out.len];exact HB.out)⟩
  have KB:=hid he;clear he;refine Zh 9 rfl zaC zaC zaC zaJ
   [Is (.pointer (some ⟨mb,0,none⟩)),Is (.pointer (some ⟨mb,0,none⟩)),Is (.pointer (some ⟨mb,2,none⟩)),Is (.pointer (some ⟨mb,3,none⟩)),Is (.slice (some ⟨bb,0,none⟩) nb nb),Is (.int .i64 b),Is (.agg #[.int .i64 5,.slice none 0 0,.slice none 0 0,.int .i32 u]),Is (.pointer (some ⟨bb,b*6,none⟩)),Is (.pointer (some ⟨bb,b*6+2,none⟩))]
   kX ⟨?_,?_,?_,?_,?_,?_,?_,?_,?_,trivial⟩ ?_
  rotate_right
  ·intro vs w30 hs hk;revert hk;refine zs0 ?_;intro hk
   have ha:=Xw (o:=b*6+2) (n:=4) ((H5.out.bbAt (bb:=bb) rfl).keep hs) (by rw[List.size_toArray,XS fbcells 6 ZZ,MV5.out.len];have:=HB.out;omega);have HS:=hid hs;clear hs hk;refine wpList_store_mid rfl 175 _ _ rfl bb (b*6+2) #[.int .i64 5,.slice none 0 0,.slice none 0 0,.int .i32 u] rfl rfl ha zaF k9 ?_
   clear ha;have HF:=hid (Wu (tol:=tol) (t:=⟨5,[],.slice none 0 0,[],.slice none 0 0,u⟩) H5.out MV5.out zaJ zaJ zaJ HS.out KB.out rfl ⟨⟨.nil _ _,.nil _ _⟩,.nil _ _,.nil _ _⟩ (List.length_eq_zero_iff.1 ht.out).symm ⟨(by show (-2147483648:Int)≤u∧u≤2147483647;omega),(fun y hy=>by cases hy),(fun y hy=>by cases hy),.inr (.inr (.inr (.inr ⟨rfl,rfl,rfl⟩)))⟩);exact kK
  all_goals
   intro vs w30 hs hk _;revert hk;refine zs1 ?_;intro hk
  iterate 4
   ·exact kH
  ·have hd:=HeapIs.keep (show HeapIs w5 mb _ _ from H5.out.made) hs;exact yh
  ·exact kH
  ·have hn:=TB5.out.1.keep hs;exact qP
  ·have hL:b<nb:=by rw[←hg.out];exact HB.out
   have hH:nb≤512:=by rw[←hg.out,←MV5.out.len];exact H5.out.few
   exact kH
  ·exact kH
 ·have hU:(kk==0)=false:=by simpa using hA
  clear hA;by_cases hV:1<kk
  ·skip
   have kl2:=TB2.out.1.lt;have kf2:=TB2.out.1.frozen;have kc2_0:w2.cell? ⟨tb,0,none⟩=some (.int .i64 4):=TB2.out.1.cell 0;have kc2_1:w2.cell? ⟨tb,1,none⟩=some (.slice none 0 0):=TB2.out.1.cell 1;have kc2_2:w2.cell? ⟨tb,2,none⟩=some (.slice none 0 0):=TB2.out.1.cell 2;have kc2_3:w2.cell? ⟨tb,3,none⟩=some (.int .i32 0):=TB2.out.1.cell 3;go_wp2_with fail
   clear kl2 kf2 kc2_0 kc2_1 kc2_2 kc2_3;refine (YC H2.out (SM2.out.mono zaJ) b zae).mono ?_;rintro e w3 ⟨m3,⟨v,rfl,hR,hQ⟩,h3,mv3⟩;have H3:=hid h3;have MV3:=hid (MV2.out.trans mv3);have SM3:=hid (SM2.out.mv mv3);have nx3:=mv3.next.1;have TB3:=hid (mv3.carry TB2.out);have TO3:=zH (Zd _ _ _∧Stays _ _ _) ⟨mv3.nums TO2.out.1 TO2.out.2,mv3.stays TO2.out.2⟩;clear h3 mv3;have kl3:=TB3.out.1.lt;have kf3:=TB3.out.1.frozen;have kc3_0:w3.cell? ⟨tb,0,none⟩=some (.int .i64 4):=TB3.out.1.cell 0;have kc3_1:w3.cell? ⟨tb,1,none⟩=some (.slice none 0 0):=TB3.out.1.cell 1;have kc3_2:w3.cell? ⟨tb,2,none⟩=some (.slice none 0 0):=TB3.out.1.cell 2;have kc3_3:w3.cell? ⟨tb,3,none⟩=some (.int .i32 0):=TB3.out.1.cell 3;go_wp2_with fail
   obtain⟨wi,hh⟩:∃ x,x=(w3.setCell ⟨tb,1,none⟩ (.slice (some ⟨w3.heap.size,0,none⟩) 1 1)):=⟨_,rfl⟩
   have hG:wi.heap.size=w3.heap.size:=by rw[hh];exact YT _ _ _
   have hu:Zb (fun q=>q=tb) w3 wi:=by rw[hh];exact ((Zb.refl (fun q=>q=tb) w3).setCell (p:=⟨tb,1,none⟩) rfl (.slice (some ⟨w3.heap.size,0,none⟩) 1 1))
   have Hi:=H3.out.besides hu (fun q _ e=>.inr e);obtain⟨w4,hi⟩:∃ x,x=wi.alloc (.cells #[.int .i64 v] 3):=⟨_,rfl⟩
   rw[←hh,←hi];have t4:Zb (fun q=>q=tb) w3 w4:=by rw[hi];exact hu.alloc _
   obtain⟨m4,hf⟩:∃ x,x=m3:=⟨_,rfl⟩
   have H4:=hid (H3.out.besides t4 (fun q _ e=>.inr e));have MV4:=hid (MV3.out.beside t4 (fun q hq e=>by have h9:q=tb:=e;have:=hB.out;omega));have SM4:=SM3;have TB4:=zH (HeapIs w4 tb #[.int .i64 4,.slice (some ⟨w3.heap.size,0,none⟩) 1 1,.slice none 0 0,.int .i32 0] 175∧¬ Own mb (.slice (some ⟨bb,0,none⟩) nb nb) m3 tb) ⟨(by rw[hi];refine HeapIs.keep ?_ ((Since.refl _).alloc _);rw[hh];exact (TB3.out.1.set 1 (.slice (some ⟨w3.heap.size,0,none⟩) 1 1))),TB3.out.2⟩;have TO4:=zH (Zd _ _ _∧Stays (ZE (CT C tb) mb (.slice (some ⟨bb,0,none⟩) nb nb) m3) _ _) ⟨TO3.out.1.turn t4 fun q hq e=>(TO3.out.2 q hq).1 (.inr (.inr e)),TO3.out.2.mono (fun _ h=>.inl h) t4.size⟩;have h9:=Hi.newInts [v] #[.int .i64 v] rfl 1 rfl zap 3;rw[hG,←hi]at h9;have AR4:=hid h9;clear h9;rw[←hf]at H4 MV4 SM4 TB4 TO4 AR4;have nx4:m3.next≤m4.next:=by rw[hf];exact Int.le_refl _
   clear hi hf t4 hh hG hu Hi kf3 kl3 kc3_0 kc3_1 kc3_2 kc3_3;obtain⟨kb,he⟩:∃ k,m4.bks[b]? = some k:=⟨_,List.getElem?_eq_getElem zag⟩
   have KB:=hid he;clear he;refine Zh 9 rfl zaC zaC zaC zaJ
    [Is (.pointer (some ⟨mb,0,none⟩)),Is (.pointer (some ⟨mb,0,none⟩)),Is (.pointer (some ⟨mb,2,none⟩)),Is (.pointer (some ⟨mb,3,none⟩)),Is (.slice (some ⟨bb,0,none⟩) nb nb),Is (.int .i64 b),Is (.agg #[.int .i64 4,.slice (some ⟨w3.heap.size,0,none⟩) 1 1,.slice none 0 0,.int .i32 0]),Is (.pointer (some ⟨bb,b*6,none⟩)),Is (.pointer (some ⟨bb,b*6+2,none⟩))]
    kX ⟨?_,?_,?_,?_,?_,?_,?_,?_,?_,trivial⟩ ?_
   rotate_right
   ·intro vs w30 hs hk;revert hk;refine zs0 ?_;intro hk
    have ha:=Xw (o:=b*6+2) (n:=4) ((H4.out.bbAt (bb:=bb) rfl).keep hs) (by rw[List.size_toArray,XS fbcells 6 ZZ,MV4.out.len];have:=HB.out;omega);have HS:=hid hs;clear hs hk;refine wpList_store_mid rfl 175 _ _ rfl bb (b*6+2) #[.int .i64 4,.slice (some ⟨w3.heap.size,0,none⟩) 1 1,.slice none 0 0,.int .i32 0] rfl rfl ha zaF k9 ?_
    clear ha;have HF:=hid (Wu (tol:=tol) (t:=⟨4,[v],.slice (some ⟨w3.heap.size,0,none⟩) 1 1,[],.slice none 0 0,0⟩) H4.out MV4.out zaJ zaJ zaJ HS.out KB.out rfl ⟨⟨AR4.out.1,.nil _ _⟩,AR4.out.2,.nil _ _⟩ (List.length_eq_zero_iff.1 ht.out).symm ⟨kY,(fun y hy=>by obtain rfl:=List.mem_singleton.1 hy;constructor<;>omega),(fun y hy=>by cases hy),.inr (.inr (.inr (.inl ⟨rfl,Nat.le_refl _,rfl⟩)))⟩);exact kK
   all_goals
    intro vs w30 hs hk _;revert hk;refine zs1 ?_;intro hk
   iterate 4
    ·exact kH
   ·have hd:=HeapIs.keep (show HeapIs w4 mb _ _ from H4.out.made) hs;exact yh
   ·exact kH
   ·have hn:=TB4.out.1.keep hs;exact qP
   ·have hL:b<nb:=by rw[←hg.out];exact HB.out
    have hH:nb≤512:=by rw[←hg.out,←MV4.out.len];exact H4.out.few
    exact kH
   ·exact kH
  ·skip
   have kl2:=TB2.out.1.lt;have kf2:=TB2.out.1.frozen;have kc2_0:w2.cell? ⟨tb,0,none⟩=some (.int .i64 4):=TB2.out.1.cell 0;have kc2_1:w2.cell? ⟨tb,1,none⟩=some (.slice none 0 0):=TB2.out.1.cell 1;have kc2_2:w2.cell? ⟨tb,2,none⟩=some (.slice none 0 0):=TB2.out.1.cell 2;have kc2_3:w2.cell? ⟨tb,3,none⟩=some (.int .i32 0):=TB2.out.1.cell 3;go_wp2_with fail
   clear kl2 kf2 kc2_0 kc2_1 kc2_2 kc2_3;obtain⟨kb,he⟩:∃ k,m2.bks[b]? = some k:=⟨_,List.getElem?_eq_getElem zae⟩
   have KB:=hid he;clear he;refine Zh 9 rfl zaC zaC zaC zaJ
    [Is (.pointer (some ⟨mb,0,none⟩)),Is (.pointer (some ⟨mb,0,none⟩)),Is (.pointer (some ⟨mb,2,none⟩)),Is (.pointer (some ⟨mb,3,none⟩)),Is (.slice (some ⟨bb,0,none⟩) nb nb),Is (.int .i64 b),Is (.agg #[.int .i64 4,.slice none 0 0,.slice none 0 0,.int .i32 0]),Is (.pointer (some ⟨bb,b*6,none⟩)),Is (.pointer (some ⟨bb,b*6+2,none⟩))]
    kX ⟨?_,?_,?_,?_,?_,?_,?_,?_,?_,trivial⟩ ?_
   rotate_right
   ·intro vs w30 hs hk;revert hk;refine zs0 ?_;intro hk
    have ha:=Xw (o:=b*6+2) (n:=4) ((H2.out.bbAt (bb:=bb) rfl).keep hs) (by rw[List.size_toArray,XS fbcells 6 ZZ,MV2.out.len];have:=HB.out;omega);have HS:=hid hs;clear hs hk;refine wpList_store_mid rfl 175 _ _ rfl bb (b*6+2) #[.int .i64 4,.slice none 0 0,.slice none 0 0,.int .i32 0] rfl rfl ha zaF k9 ?_
    clear ha;have HF:=hid (Wu (tol:=tol) (t:=⟨4,[],.slice none 0 0,[],.slice none 0 0,0⟩) H2.out MV2.out zaJ zaJ zaJ HS.out KB.out rfl ⟨⟨.nil _ _,.nil _ _⟩,.nil _ _,.nil _ _⟩ (List.length_eq_zero_iff.1 ht.out).symm ⟨kY,(fun y hy=>by cases hy),(fun y hy=>by cases hy),.inr (.inr (.inr (.inl ⟨rfl,Nat.zero_le _,rfl⟩)))⟩);exact kK
   all_goals
    intro vs w30 hs hk _;revert hk;refine zs1 ?_;intro hk
   iterate 4
    ·exact kH
   ·have hd:=HeapIs.keep (show HeapIs w2 mb _ _ from H2.out.made) hs;exact yh
   ·exact kH
   ·have hn:=TB2.out.1.keep hs;exact qP
   ·have hL:b<nb:=by rw[←hg.out];exact HB.out
    have hH:nb≤512:=by rw[←hg.out,←MV2.out.len];exact H2.out.few
    exact kH
   ·exact kH
theorem Zb0 (h:MkOk C mb bv sv l m w) (hs:Sm 10 m) (b:Nat) (hb:b<m.bks.length) (tov:Value) (tol:List Int) (hf:Zd w tov tol∧Stays (ZE C mb bv m) w tov) (hm:∀ x∈tol,1≤x∧x<(m.bks.length:Int)) (hn:tol.length=1) :
  Calls prog 112 #[.pointer (some ⟨mb,0,none⟩),.int .i64 b,tov] w (Qw C mb bv sv l w m b tol):=by
 obtain⟨nb,hp⟩:∃ n,m.bks.length=n:=⟨_,rfl⟩
 obtain⟨bb,hx⟩:∃ bb,bv=.slice (some ⟨bb,0,none⟩) nb nb:=by
  rcases h.bks with ⟨_,h2⟩|⟨bb,h1,_⟩
  ·rw[h2]at hb;simp at hb
  ·exact⟨bb,by rw[←hp];exact h1⟩
 subst hx;obtain⟨ta,tc,hj⟩:=Zc hf.1;obtain⟨tl,ho⟩:∃ n,tol.length=n:=⟨_,rfl⟩
 rw[ho]at hj hn;subst hj;obtain⟨tb,hg⟩:∃ q,q=w.heap.size:=⟨_,rfl⟩
 obtain⟨w1,ha⟩:∃ x,x=w.alloc (.cells #[.int .i64 1,.slice none 0 0,.slice ta tl tc,.int .i32 0] 175):=⟨_,rfl⟩
 have he:Since w w1:=by rw[ha];exact (Since.refl _).alloc _
 have hv:w1.heap.size=w.heap.size+1:=by rw[ha];simp
 obtain⟨m1,hi⟩:∃ x,x=m:=⟨_,rfl⟩
 have ht:∀ q,CT C tb q→(C q∨w.heap.size≤q)∧q<w1.heap.size:=by
  exact jb
 have H1:=hid (h.swapC (Zb.since (S:=fun _=>False) he) (fun q _ e=>e.elim) ht);have MV1:=hid ((Mv.refl mb (.slice (some ⟨bb,0,none⟩) nb nb) w m).keep he);have SM1:=hid hs;have TB1:=zH (HeapIs w1 tb #[.int .i64 1,.slice none 0 0,.slice ta tl tc,.int .i32 0] 175∧¬ Own mb (.slice (some ⟨bb,0,none⟩) nb nb) m tb) ⟨by rw[ha,hg];exact HeapIs.new _ _ _,fun h1=>by have:=h.ltOwn h1;omega⟩;have TO1:=hid (show Zd w1 (.slice ta tl tc) tol∧Stays (ZE (CT C tb) mb (.slice (some ⟨bb,0,none⟩) nb nb) m) w1 (.slice ta tl tc) from⟨hf.1.keep he,hf.2.mono (by
  rintro q (hq|hq|hq)
  ·exact .inl (.inl hq)
  ·exact .inl (.inr hq)
  ·exact .inr zaK) he.size⟩)
 have hD:=zH (w.heap.size≤tb) zaK;have HB:=hid hb;have hz:=hid hm;have hA:=hid ho;have hu:=hid hp;rw[←hi]at H1 SM1 TB1 TO1;have MV1:=zH (Mv mb _ w m w1 m1 0 0 0) (by rw[hi];exact MV1.out);have HB:=zH (b<m.bks.length) HB.out;have nx1:0≤m1.next:=H1.out.next0;subst hn;clear h hs hb hf hm ht hi;go_enter func112,ntmps112
 go_wp2_with fail
 rw[←hg,←ha];clear ha hv he hg;obtain⟨kb,hr⟩:∃ k,m1.bks[b]? = some k:=⟨_,List.getElem?_eq_getElem zad⟩
 have KB:=hid hr;clear hr;refine Zh 9 rfl zaC zaC zaC zaJ
  [Is (.pointer (some ⟨mb,0,none⟩)),Is (.pointer (some ⟨mb,0,none⟩)),Is (.pointer (some ⟨mb,2,none⟩)),Is (.pointer (some ⟨mb,3,none⟩)),Is (.slice (some ⟨bb,0,none⟩) nb nb),Is (.int .i64 b),Is (.agg #[.int .i64 1,.slice none 0 0,.slice ta 1 tc,.int .i32 0]),Is (.pointer (some ⟨bb,b*6,none⟩)),Is (.pointer (some ⟨bb,b*6+2,none⟩))]
  kX ⟨?_,?_,?_,?_,?_,?_,?_,?_,?_,trivial⟩ ?_
 rotate_right
 ·intro vs w30 hs hk;revert hk;refine zs0 ?_;intro hk
  have hd:=Xw (o:=b*6+2) (n:=4) ((H1.out.bbAt (bb:=bb) rfl).keep hs) (by rw[List.size_toArray,XS fbcells 6 ZZ,MV1.out.len];have:=HB.out;omega);have HS:=hid hs;clear hs hk;refine wpList_store_mid rfl 175 _ _ rfl bb (b*6+2) #[.int .i64 1,.slice none 0 0,.slice ta 1 tc,.int .i32 0] rfl rfl hd zaF k9 ?_
  clear hd;have HF:=hid (Wu (tol:=tol) (t:=⟨1,[],.slice none 0 0,tol,.slice ta 1 tc,0⟩) H1.out MV1.out zaJ zaJ zaJ HS.out KB.out rfl ⟨⟨.nil _ _,TO1.out.1⟩,.nil _ _,TO1.out.2⟩ rfl ⟨kY,(fun y hy=>by cases hy),hz.out,.inl ⟨rfl,rfl,hA.out⟩⟩)
  exact kK
 all_goals
  intro vs w30 hs hk _;revert hk;refine zs1 ?_;intro hk
 iterate 4
  ·exact kH
 ·have hh:=HeapIs.keep (show HeapIs w1 mb _ _ from H1.out.made) hs;have hc:w30.cell? ⟨mb,3,none⟩=some (.slice (some ⟨bb,0,none⟩) nb nb):=hh.cell 3;have hl:=hh.lt;clear hh;exact kH
 ·exact kH
 ·have hw:=TB1.out.1.keep hs;clear hk;refine wpList_load_row rfl _ _ rfl tb rfl 175 _ (0,0) _ hw underlying175 rfl zaF ?_;exact kH
 ·have hC:b<nb:=by rw[←hu.out];exact HB.out
  have hB:nb≤512:=by rw[←hu.out,←MV1.out.len];exact H1.out.few
  exact kH
 ·exact kH
theorem ZbZ (h:MkOk C mb bv sv l m w) (hs:Sm 10 m) (b:Nat) (hb:b<m.bks.length) (tov:Value) (tol:List Int) (ht:Zd w tov tol∧Stays (ZE C mb bv m) w tov) (hE:∀ x∈tol,1≤x∧x<(m.bks.length:Int)) (hF:tol.length=2) :
  Calls prog 112 #[.pointer (some ⟨mb,0,none⟩),.int .i64 b,tov] w (Qw C mb bv sv l w m b tol):=by
 obtain⟨nb,hH⟩:∃ n,m.bks.length=n:=⟨_,rfl⟩
 obtain⟨bb,hV⟩:∃ bb,bv=.slice (some ⟨bb,0,none⟩) nb nb:=by
  rcases h.bks with ⟨_,h2⟩|⟨bb,h1,_⟩
  ·rw[h2]at hb;simp at hb
  ·exact⟨bb,by rw[←hH];exact h1⟩
 subst hV;obtain⟨ta,tc,hD⟩:=Zc ht.1;obtain⟨tl,hG⟩:∃ n,tol.length=n:=⟨_,rfl⟩
 rw[hG]at hD hF;subst hD;obtain⟨tb,hw⟩:∃ q,q=w.heap.size:=⟨_,rfl⟩
 obtain⟨w1,hj⟩:∃ x,x=w.alloc (.cells #[.int .i64 2,.slice none 0 0,.slice ta tl tc,.int .i32 0] 175):=⟨_,rfl⟩
 have hn:Since w w1:=by rw[hj];exact (Since.refl _).alloc _
 have hC:w1.heap.size=w.heap.size+1:=by rw[hj];simp
 obtain⟨m1,hA⟩:∃ x,x=m:=⟨_,rfl⟩
 have hM:∀ q,CT C tb q→(C q∨w.heap.size≤q)∧q<w1.heap.size:=by
  exact jb
 have H1:=hid (h.swapC (Zb.since (S:=fun _=>False) hn) (fun q _ e=>e.elim) hM);have MV1:=hid ((Mv.refl mb (.slice (some ⟨bb,0,none⟩) nb nb) w m).keep hn);have SM1:=hid hs;have TB1:=zH (HeapIs w1 tb #[.int .i64 2,.slice none 0 0,.slice ta tl tc,.int .i32 0] 175∧¬ Own mb (.slice (some ⟨bb,0,none⟩) nb nb) m tb) ⟨by rw[hj,hw];exact HeapIs.new _ _ _,fun h1=>by have:=h.ltOwn h1;omega⟩;have TO1:=hid (show Zd w1 (.slice ta tl tc) tol∧Stays (ZE (CT C tb) mb (.slice (some ⟨bb,0,none⟩) nb nb) m) w1 (.slice ta tl tc) from⟨ht.1.keep hn,ht.2.mono (by
  rintro q (hq|hq|hq)
  ·exact .inl (.inl hq)
  ·exact .inl (.inr hq)
  ·exact .inr zaK) hn.size⟩)
 have hP:=zH (w.heap.size≤tb) zaK;have HB:=hid hb;have hN:=hid hE;have hO:=hid hG;have hv:=hid hH;rw[←hA]at H1 SM1 TB1 TO1;have MV1:=zH (Mv mb _ w m w1 m1 0 0 0) (by rw[hA];exact MV1.out);have HB:=zH (b<m.bks.length) HB.out;have nx1:0≤m1.next:=H1.out.next0;subst hF;clear h hs hb ht hE hM hA;go_enter func112,ntmps112
 go_wp2_with fail
 rw[←hw,←hj];clear hj hC hn hw;refine (YC H1.out (SM1.out.mono zaJ) b zad).mono ?_;rintro e w2 ⟨m2,⟨v,rfl,Hb,Ha⟩,h2,mv2⟩;have H2:=hid h2;have MV2:=hid (MV1.out.trans mv2);have SM2:=hid (SM1.out.mv mv2);have nx2:=mv2.next.1;have TB2:=hid (mv2.carry TB1.out);have TO2:=zH (Zd _ _ _∧Stays _ _ _) ⟨mv2.nums TO1.out.1 TO1.out.2,mv2.stays TO1.out.2⟩;clear h2 mv2;go_wp2_with fail
 refine (ZF H2.out 2 zaJ zam).mono ?_;rintro e w3 ⟨m3,⟨z,rfl,⟨hr,hC⟩,hL⟩,h3,mv3⟩;have H3:=hid h3;have MV3:=hid (MV2.out.trans mv3);have SM3:=hid (SM2.out.mv mv3);have nx3:m2.next≤m3.next:=by rw[hL];exact Int.le_refl _
 clear hL;have TB3:=hid (mv3.carry TB2.out);have TO3:=zH (Zd _ _ _∧Stays _ _ _) ⟨mv3.nums TO2.out.1 TO2.out.2,mv3.stays TO2.out.2⟩;clear h3 mv3;by_cases hr:z=0
 ·subst hr;go_wp2_with fail
  have hx:=(Since.refl w3).alloc (.cells #[.int .i64 11,.int .i64 12,.int .i64 13] 53);have TOX:=zH (Zd _ _ _∧Stays _ _ _) ⟨TO3.out.1.keep hx,TO3.out.2.keep hx⟩;clear hx;obtain⟨w4,hd⟩:∃ x,x=w3.alloc (.cells #[.int .i64 11,.int .i64 12,.int .i64 13] 53):=⟨_,rfl⟩
  rw[←hd];have hu:Since w3 w4:=by rw[hd];exact (Since.refl _).alloc _
  obtain⟨m4,hh⟩:∃ x,x=m3:=⟨_,rfl⟩
  have H4:=hid (H3.out.keep hu);have MV4:=hid (MV3.out.keep hu);have SM4:=SM3;have OB4:=zH (HeapIs w4 w3.heap.size #[.int .i64 11,.int .i64 12,.int .i64 13] 53∧¬ Own mb _ m3 w3.heap.size) ⟨by rw[hd];exact HeapIs.new _ _ _,fun h1=>absurd (H3.out.ltOwn h1) (Nat.lt_irrefl _)⟩;have TB4:=hid (Zcc TB3.out hu);rw[←hd]at TOX;rw[←hh]at H4 MV4 SM4 OB4 TOX TB4;have nx4:m3.next≤m4.next:=by rw[hh];exact Int.le_refl _
  clear hd hu hh;have TO4:=TOX;refine (YC H4.out (SM4.out.mono zaJ) b zag).mono ?_;rintro e w5 ⟨m5,⟨y,rfl,h4,h0⟩,h5,mv5⟩;have H5:=hid h5;have MV5:=hid (MV4.out.trans mv5);have SM5:=hid (SM4.out.mv mv5);have nx5:=mv5.next.1;have TB5:=hid (mv5.carry TB4.out);have OB5:=hid (mv5.carry OB4.out);have TO5:=zH (Zd _ _ _∧Stays _ _ _) ⟨mv5.nums TO4.out.1 TO4.out.2,mv5.stays TO4.out.2⟩;clear h5 mv5;go_wp2_with fail
  refine (Yt H5.out ⟨zaK,by have:=SM5.out.2.1;omega⟩).mono ?_;rintro e w6 ⟨m6,⟨rfl,hK⟩,h6,mv6⟩;have H6:=hid h6;have MV6:=hid (MV5.out.trans mv6);have SM6:=hid (SM5.out.mv mv6);have nx6:m5.next+1≤m6.next:=by rw[hK];exact Int.le_refl _
  clear hK;have TB6:=hid (mv6.carry TB5.out);have OB6:=hid (mv6.carry OB5.out);have TO6:=zH (Zd _ _ _∧Stays _ _ _) ⟨mv6.nums TO5.out.1 TO5.out.2,mv6.stays TO5.out.2⟩;clear h6 mv6;go_wp2_with fail
  refine (ZF H6.out 3 zaJ (by have:=SM6.out.1;omega)).mono ?_;rintro e w7 ⟨m7,⟨o3,rfl,⟨hY,hX⟩,hJ⟩,h7,mv7⟩;have H7:=hid h7;have MV7:=hid (MV6.out.trans mv7);have SM7:=hid (SM6.out.mv mv7);have nx7:m6.next≤m7.next:=by rw[hJ];exact Int.le_refl _
  clear hJ;have TB7:=hid (mv7.carry TB6.out);have OB7:=hid (mv7.carry OB6.out);have TO7:=zH (Zd _ _ _∧Stays _ _ _) ⟨mv7.nums TO6.out.1 TO6.out.2,mv7.stays TO6.out.2⟩;clear h7 mv7;obtain⟨on,rfl⟩:∃ n:Nat,o3=n:=⟨o3.toNat,zaK⟩
  obtain⟨ov,ho,hT,hS⟩:∃ ov,([11,12,13]:List Int)[on]? = some ov∧2≤ov∧ov≤14:=by
   have h9:on=0∨on=1∨on=2:=zaK
   rcases h9 with rfl|rfl|rfl
   ·exact⟨11,rfl,zaJ,zaJ⟩
   ·exact⟨12,rfl,zaJ,zaJ⟩
   ·exact⟨13,rfl,zaJ,zaJ⟩
  have hR:w7.cell? ⟨w3.heap.size,on,none⟩=some (.int .i64 ov):=(OB7.out.1.cell on).trans (by show (([11,12,13]:List Int).map (Value.int .i64)).toArray[on]? = _;rw[List.getElem?_toArray,List.getElem?_map,ho];rfl)
  have hQ:=OB7.out.1.lt;clear ho;go_wp2_with fail
  have AD7:=zH (Zd _ _ _∧Stays _ _ _) (H7.out.newInts [v,y] #[.int .i64 (v),.int .i64 (y)] rfl 2 rfl zao 3);refine (Calls.since_mk ((Since.refl _).alloc _) (Yz (H7.out.keep ((Since.refl _).alloc _)) (SM7.out.mono zaJ) b (by rw[MV7.out.len];exact HB.out) ⟨ov,m5.next,0,[v,y],_,0⟩ AD7.out (Y6 ⟨hT,hS⟩ ⟨zaK,zaK⟩ ⟨zaK,zaK⟩ ⟨zaK,zaK⟩))).mono ?_;rintro e w8 ⟨m8,⟨rfl,hI⟩,h8,mv8⟩;have H8:=hid h8;have MV8:=hid (MV7.out.trans mv8);have SM8:=hid (SM7.out.mv mv8);have nx8:m7.next≤m8.next:=by rw[hI];exact Int.le_refl _
  clear hI;have TB8:=hid (mv8.carry TB7.out);have OB8:=hid (mv8.carry OB7.out);have TO8:=zH (Zd _ _ _∧Stays _ _ _) ⟨mv8.nums TO7.out.1 TO7.out.2,mv8.stays TO7.out.2⟩;clear h8 mv8;clear hR hQ;have kl8:=TB8.out.1.lt;have kf8:=TB8.out.1.frozen;have kc8_0:w8.cell? ⟨tb,0,none⟩=some (.int .i64 2):=TB8.out.1.cell 0;have kc8_1:w8.cell? ⟨tb,1,none⟩=some (.slice none 0 0):=TB8.out.1.cell 1;have kc8_2:w8.cell? ⟨tb,2,none⟩=some (.slice ta 2 tc):=TB8.out.1.cell 2;have kc8_3:w8.cell? ⟨tb,3,none⟩=some (.int .i32 0):=TB8.out.1.cell 3;go_wp2_with fail
  obtain⟨wi,ha⟩:∃ x,x=(w8.setCell ⟨tb,1,none⟩ (.slice (some ⟨w8.heap.size,0,none⟩) 1 1)):=⟨_,rfl⟩
  have hm:wi.heap.size=w8.heap.size:=by rw[ha];exact YT _ _ _
  have hf:Zb (fun q=>q=tb) w8 wi:=by rw[ha];exact ((Zb.refl (fun q=>q=tb) w8).setCell (p:=⟨tb,1,none⟩) rfl (.slice (some ⟨w8.heap.size,0,none⟩) 1 1))
  have Hi:=H8.out.besides hf (fun q _ e=>.inr e);obtain⟨w9,hi⟩:∃ x,x=wi.alloc (.cells #[.int .i64 m5.next] 3):=⟨_,rfl⟩
  rw[←ha,←hi];have t9:Zb (fun q=>q=tb) w8 w9:=by rw[hi];exact hf.alloc _
  obtain⟨m9,hz⟩:∃ x,x=m8:=⟨_,rfl⟩
  have H9:=hid (H8.out.besides t9 (fun q _ e=>.inr e));have MV9:=hid (MV8.out.beside t9 (fun q hq e=>by have h9:q=tb:=e;have:=hP.out;omega));have SM9:=SM8;have TB9:=zH (HeapIs w9 tb #[.int .i64 2,.slice (some ⟨w8.heap.size,0,none⟩) 1 1,.slice ta 2 tc,.int .i32 0] 175∧¬ Own mb (.slice (some ⟨bb,0,none⟩) nb nb) m8 tb) ⟨(by rw[hi];refine HeapIs.keep ?_ ((Since.refl _).alloc _);rw[ha];exact (TB8.out.1.set 1 (.slice (some ⟨w8.heap.size,0,none⟩) 1 1))),TB8.out.2⟩;have TO9:=zH (Zd _ _ _∧Stays (ZE (CT C tb) mb (.slice (some ⟨bb,0,none⟩) nb nb) m8) _ _) ⟨TO8.out.1.turn t9 fun q hq e=>(TO8.out.2 q hq).1 (.inr (.inr e)),TO8.out.2.mono (fun _ h=>.inl h) t9.size⟩;have h9:=Hi.newInts [m5.next] #[.int .i64 m5.next] rfl 1 rfl zap 3;rw[hm,←hi]at h9;have AR9:=hid h9;clear h9;rw[←hz]at H9 MV9 SM9 TB9 TO9 AR9;have nx9:m8.next≤m9.next:=by rw[hz];exact Int.le_refl _
  clear hi hz t9 ha hm hf Hi kf8 kl8 kc8_0 kc8_1 kc8_2 kc8_3;obtain⟨kb,hp⟩:∃ k,m9.bks[b]? = some k:=⟨_,List.getElem?_eq_getElem (by rw[MV9.out.len];exact HB.out)⟩
  have KB:=hid hp;clear hp;refine Zh 9 rfl zaC zaC zaC zaJ
   [Is (.pointer (some ⟨mb,0,none⟩)),Is (.pointer (some ⟨mb,0,none⟩)),Is (.pointer (some ⟨mb,2,none⟩)),Is (.pointer (some ⟨mb,3,none⟩)),Is (.slice (some ⟨bb,0,none⟩) nb nb),Is (.int .i64 b),Is (.agg #[.int .i64 2,.slice (some ⟨w8.heap.size,0,none⟩) 1 1,.slice ta 2 tc,.int .i32 0]),Is (.pointer (some ⟨bb,b*6,none⟩)),Is (.pointer (some ⟨bb,b*6+2,none⟩))]
   kX ⟨?_,?_,?_,?_,?_,?_,?_,?_,?_,trivial⟩ ?_
  rotate_right
  ·intro vs w30 hs hk;revert hk;refine zs0 ?_;intro hk
   have he:=Xw (o:=b*6+2) (n:=4) ((H9.out.bbAt (bb:=bb) rfl).keep hs) (by rw[List.size_toArray,XS fbcells 6 ZZ,MV9.out.len];have:=HB.out;omega);have HS:=hid hs;clear hs hk;refine wpList_store_mid rfl 175 _ _ rfl bb (b*6+2) #[.int .i64 2,.slice (some ⟨w8.heap.size,0,none⟩) 1 1,.slice ta 2 tc,.int .i32 0] rfl rfl he zaF k9 ?_
   clear he;have HF:=hid (Wu (tol:=tol) (t:=⟨2,[m5.next],.slice (some ⟨w8.heap.size,0,none⟩) 1 1,tol,.slice ta 2 tc,0⟩) H9.out MV9.out zaJ zaJ zaJ HS.out KB.out rfl ⟨⟨AR9.out.1,TO9.out.1⟩,AR9.out.2,TO9.out.2⟩ rfl ⟨kY,(fun y hy=>by obtain rfl:=List.mem_singleton.1 hy;constructor<;>omega),hN.out,.inr (.inl ⟨rfl,rfl,hO.out⟩)⟩);exact kK
  all_goals
   intro vs w30 hs hk _;revert hk;refine zs1 ?_;intro hk
  iterate 4
   ·exact kH
  ·have hg:=HeapIs.keep (show HeapIs w9 mb _ _ from H9.out.made) hs;exact yj
  ·exact kH
  ·have hB:=TB9.out.1.keep hs;exact qO
  ·have hW:b<nb:=by rw[←hv.out];exact HB.out
   have hU:nb≤512:=by rw[←hv.out,←MV9.out.len];exact H9.out.few
   exact kH
  ·exact kH
 ·have hZ:(z==0)=false:=by simpa using hr
  clear hr;have kl3:=TB3.out.1.lt;have kf3:=TB3.out.1.frozen;have kc3_0:w3.cell? ⟨tb,0,none⟩=some (.int .i64 2):=TB3.out.1.cell 0;have kc3_1:w3.cell? ⟨tb,1,none⟩=some (.slice none 0 0):=TB3.out.1.cell 1;have kc3_2:w3.cell? ⟨tb,2,none⟩=some (.slice ta 2 tc):=TB3.out.1.cell 2;have kc3_3:w3.cell? ⟨tb,3,none⟩=some (.int .i32 0):=TB3.out.1.cell 3;go_wp2_with fail
  obtain⟨wi,ha⟩:∃ x,x=(w3.setCell ⟨tb,1,none⟩ (.slice (some ⟨w3.heap.size,0,none⟩) 1 1)):=⟨_,rfl⟩
  have hm:wi.heap.size=w3.heap.size:=by rw[ha];exact YT _ _ _
  have hf:Zb (fun q=>q=tb) w3 wi:=by rw[ha];exact ((Zb.refl (fun q=>q=tb) w3).setCell (p:=⟨tb,1,none⟩) rfl (.slice (some ⟨w3.heap.size,0,none⟩) 1 1))
  have Hi:=H3.out.besides hf (fun q _ e=>.inr e);obtain⟨w4,hd⟩:∃ x,x=wi.alloc (.cells #[.int .i64 v] 3):=⟨_,rfl⟩
  rw[←ha,←hd];have t4:Zb (fun q=>q=tb) w3 w4:=by rw[hd];exact hf.alloc _
  obtain⟨m4,hh⟩:∃ x,x=m3:=⟨_,rfl⟩
  have H4:=hid (H3.out.besides t4 (fun q _ e=>.inr e));have MV4:=hid (MV3.out.beside t4 (fun q hq e=>by have h9:q=tb:=e;have:=hP.out;omega));have SM4:=SM3;have TB4:=zH (HeapIs w4 tb #[.int .i64 2,.slice (some ⟨w3.heap.size,0,none⟩) 1 1,.slice ta 2 tc,.int .i32 0] 175∧¬ Own mb (.slice (some ⟨bb,0,none⟩) nb nb) m3 tb) ⟨(by rw[hd];refine HeapIs.keep ?_ ((Since.refl _).alloc _);rw[ha];exact (TB3.out.1.set 1 (.slice (some ⟨w3.heap.size,0,none⟩) 1 1))),TB3.out.2⟩;have TO4:=zH (Zd _ _ _∧Stays (ZE (CT C tb) mb (.slice (some ⟨bb,0,none⟩) nb nb) m3) _ _) ⟨TO3.out.1.turn t4 fun q hq e=>(TO3.out.2 q hq).1 (.inr (.inr e)),TO3.out.2.mono (fun _ h=>.inl h) t4.size⟩;have h9:=Hi.newInts [v] #[.int .i64 v] rfl 1 rfl zap 3;rw[hm,←hd]at h9;have AR4:=hid h9;clear h9;rw[←hh]at H4 MV4 SM4 TB4 TO4 AR4;have nx4:m3.next≤m4.next:=by rw[hh];exact Int.le_refl _
  clear hd hh t4 ha hm hf Hi kf3 kl3 kc3_0 kc3_1 kc3_2 kc3_3;obtain⟨kb,hp⟩:∃ k,m4.bks[b]? = some k:=⟨_,List.getElem?_eq_getElem zag⟩
  have KB:=hid hp;clear hp;refine Zh 9 rfl zaC zaC zaC zaJ
   [Is (.pointer (some ⟨mb,0,none⟩)),Is (.pointer (some ⟨mb,0,none⟩)),Is (.pointer (some ⟨mb,2,none⟩)),Is (.pointer (some ⟨mb,3,none⟩)),Is (.slice (some ⟨bb,0,none⟩) nb nb),Is (.int .i64 b),Is (.agg #[.int .i64 2,.slice (some ⟨w3.heap.size,0,none⟩) 1 1,.slice ta 2 tc,.int .i32 0]),Is (.pointer (some ⟨bb,b*6,none⟩)),Is (.pointer (some ⟨bb,b*6+2,none⟩))]
   kX ⟨?_,?_,?_,?_,?_,?_,?_,?_,?_,trivial⟩ ?_
  rotate_right
  ·intro vs w30 hs hk;revert hk;refine zs0 ?_;intro hk
   have he:=Xw (o:=b*6+2) (n:=4) ((H4.out.bbAt (bb:=bb) rfl).keep hs) (by rw[List.size_toArray,XS fbcells 6 ZZ,MV4.out.len];have:=HB.out;omega);have HS:=hid hs;clear hs hk;refine wpList_store_mid rfl 175 _ _ rfl bb (b*6+2) #[.int .i64 2,.slice (some ⟨w3.heap.size,0,none⟩) 1 1,.slice ta 2 tc,.int .i32 0] rfl rfl he zaF k9 ?_
   clear he;have HF:=hid (Wu (tol:=tol) (t:=⟨2,[v],.slice (some ⟨w3.heap.size,0,none⟩) 1 1,tol,.slice ta 2 tc,0⟩) H4.out MV4.out zaJ zaJ zaJ HS.out KB.out rfl ⟨⟨AR4.out.1,TO4.out.1⟩,AR4.out.2,TO4.out.2⟩ rfl ⟨kY,(fun y hy=>by obtain rfl:=List.mem_singleton.1 hy;constructor<;>omega),hN.out,.inr (.inl ⟨rfl,rfl,hO.out⟩)⟩);exact kK
  all_goals
   intro vs w30 hs hk _;revert hk;refine zs1 ?_;intro hk
  iterate 4
   ·exact kH
  ·have hg:=HeapIs.keep (show HeapIs w4 mb _ _ from H4.out.made) hs;exact yj
  ·exact kH
  ·have hB:=TB4.out.1.keep hs;exact qO
  ·have hW:b<nb:=by rw[←hv.out];exact HB.out
   have hU:nb≤512:=by rw[←hv.out,←MV4.out.len];exact H4.out.few
   exact kH
  ·exact kH
theorem Zbc (h:MkOk C mb bv sv l m w) (hs:Sm 10 m) (b:Nat) (hb:b<m.bks.length) (tov:Value) (tol:List Int) (hh:Zd w tov tol∧Stays (ZE C mb bv m) w tov) (hr:∀ x∈tol,1≤x∧x<(m.bks.length:Int)) (hE:3≤tol.length∧tol.length≤65) :
  Calls prog 112 #[.pointer (some ⟨mb,0,none⟩),.int .i64 b,tov] w (Qw C mb bv sv l w m b tol):=by
 obtain⟨nb,hv⟩:∃ n,m.bks.length=n:=⟨_,rfl⟩
 obtain⟨bb,hG⟩:∃ bb,bv=.slice (some ⟨bb,0,none⟩) nb nb:=by
  rcases h.bks with ⟨_,h2⟩|⟨bb,h1,_⟩
  ·rw[h2]at hb;simp at hb
  ·exact⟨bb,by rw[←hv];exact h1⟩
 subst hG;obtain⟨ta,tc,hp⟩:=Zc hh.1;obtain⟨tl,ht⟩:∃ n,tol.length=n:=⟨_,rfl⟩
 rw[ht]at hp hE;subst hp;obtain⟨tb,hj⟩:∃ q,q=w.heap.size:=⟨_,rfl⟩
 obtain⟨w1,he⟩:∃ x,x=w.alloc (.cells #[.int .i64 3,.slice none 0 0,.slice ta tl tc,.int .i32 0] 175):=⟨_,rfl⟩
 have hg:Since w w1:=by rw[he];exact (Since.refl _).alloc _
 have hD:w1.heap.size=w.heap.size+1:=by rw[he];simp
 obtain⟨m1,ho⟩:∃ x,x=m:=⟨_,rfl⟩
 have hA:∀ q,CT C tb q→(C q∨w.heap.size≤q)∧q<w1.heap.size:=by
  exact jb
 have H1:=hid (h.swapC (Zb.since (S:=fun _=>False) hg) (fun q _ e=>e.elim) hA);have MV1:=hid ((Mv.refl mb (.slice (some ⟨bb,0,none⟩) nb nb) w m).keep hg);have SM1:=hid hs;have TB1:=zH (HeapIs w1 tb #[.int .i64 3,.slice none 0 0,.slice ta tl tc,.int .i32 0] 175∧¬ Own mb (.slice (some ⟨bb,0,none⟩) nb nb) m tb) ⟨by rw[he,hj];exact HeapIs.new _ _ _,fun h1=>by have:=h.ltOwn h1;omega⟩;have TO1:=hid (show Zd w1 (.slice ta tl tc) tol∧Stays (ZE (CT C tb) mb (.slice (some ⟨bb,0,none⟩) nb nb) m) w1 (.slice ta tl tc) from⟨hh.1.keep hg,hh.2.mono (by
  rintro q (hq|hq|hq)
  ·exact .inl (.inl hq)
  ·exact .inl (.inr hq)
  ·exact .inr zaK) hg.size⟩)
 have hI:=zH (w.heap.size≤tb) zaK;have HB:=hid hb;have hH:=hid hr;have hB:=hid ht;have hC:=hid hv;rw[←ho]at H1 SM1 TB1 TO1;have MV1:=zH (Mv mb _ w m w1 m1 0 0 0) (by rw[ho];exact MV1.out);have HB:=zH (b<m.bks.length) HB.out;have nx1:0≤m1.next:=H1.out.next0;have hP:((tl:Int)==0)=false:=by simp;omega
 have hO:((tl:Int)==1)=false:=by simp;omega
 have hN:((tl:Int)==2)=false:=by simp;omega
 clear h hs hb hh hr hA ho;go_enter func112,ntmps112
 go_wp2_with fail
 rw[←hj,←he];clear he hD hg hj;refine (YC H1.out (SM1.out.mono zaJ) b zad).mono ?_;rintro e w2 ⟨m2,⟨v,rfl,hM,hL⟩,h2,mv2⟩;have H2:=hid h2;have MV2:=hid (MV1.out.trans mv2);have SM2:=hid (SM1.out.mv mv2);have nx2:=mv2.next.1;have TB2:=hid (mv2.carry TB1.out);have TO2:=zH (Zd _ _ _∧Stays _ _ _) ⟨mv2.nums TO1.out.1 TO1.out.2,mv2.stays TO1.out.2⟩;clear h2 mv2;go_wp2_with fail
 refine (Yv H2.out (SM2.out.mono zaJ) b zae (7) zar).mono ?_;rintro e w3 ⟨m3,⟨s7,rfl,hK,hJ⟩,h3,mv3⟩;have H3:=hid h3;have MV3:=hid (MV2.out.trans mv3);have SM3:=hid (SM2.out.mv mv3);have nx3:=mv3.next.1;have TB3:=hid (mv3.carry TB2.out);have TO3:=zH (Zd _ _ _∧Stays _ _ _) ⟨mv3.nums TO2.out.1 TO2.out.2,mv3.stays TO2.out.2⟩;clear h3 mv3;go_wp2_with fail
 refine (Yt H3.out ⟨zaK,by have:=SM3.out.2.1;omega⟩).mono ?_;rintro e w4 ⟨m4,⟨rfl,hx⟩,h4,mv4⟩;have H4:=hid h4;have MV4:=hid (MV3.out.trans mv4);have SM4:=hid (SM3.out.mv mv4);have nx4:m3.next+1≤m4.next:=by rw[hx];exact Int.le_refl _
 clear hx;have TB4:=hid (mv4.carry TB3.out);have TO4:=zH (Zd _ _ _∧Stays _ _ _) ⟨mv4.nums TO3.out.1 TO3.out.2,mv4.stays TO3.out.2⟩;clear h4 mv4;go_wp2_with fail
 have AD4:=zH (Zd _ _ _∧Stays _ _ _) (H4.out.newInts [v,s7] #[.int .i64 (v),.int .i64 (s7)] rfl 2 rfl zao 3);refine (Calls.since_mk ((Since.refl _).alloc _) (Yz (H4.out.keep ((Since.refl _).alloc _)) (SM4.out.mono zaJ) b zag ⟨5,m3.next,0,[v,s7],_,0⟩ AD4.out (Y6 zaJ ⟨zaK,zaK⟩ ⟨zaK,zaK⟩ ⟨zaK,zaK⟩))).mono ?_;rintro e w5 ⟨m5,⟨rfl,hw⟩,h5,mv5⟩;have H5:=hid h5;have MV5:=hid (MV4.out.trans mv5);have SM5:=hid (SM4.out.mv mv5);have nx5:m4.next≤m5.next:=by rw[hw];exact Int.le_refl _
 clear hw;have TB5:=hid (mv5.carry TB4.out);have TO5:=zH (Zd _ _ _∧Stays _ _ _) ⟨mv5.nums TO4.out.1 TO4.out.2,mv5.stays TO4.out.2⟩;clear h5 mv5;have kl5:=TB5.out.1.lt;have kf5:=TB5.out.1.frozen;have kc5_0:w5.cell? ⟨tb,0,none⟩=some (.int .i64 3):=TB5.out.1.cell 0;have kc5_1:w5.cell? ⟨tb,1,none⟩=some (.slice none 0 0):=TB5.out.1.cell 1;have kc5_2:w5.cell? ⟨tb,2,none⟩=some (.slice ta tl tc):=TB5.out.1.cell 2;have kc5_3:w5.cell? ⟨tb,3,none⟩=some (.int .i32 0):=TB5.out.1.cell 3;go_wp2_with fail
 obtain⟨wi,ha⟩:∃ x,x=(w5.setCell ⟨tb,1,none⟩ (.slice (some ⟨w5.heap.size,0,none⟩) 1 1)):=⟨_,rfl⟩
 have hu:wi.heap.size=w5.heap.size:=by rw[ha];exact YT _ _ _
 have hi:Zb (fun q=>q=tb) w5 wi:=by rw[ha];exact ((Zb.refl (fun q=>q=tb) w5).setCell (p:=⟨tb,1,none⟩) rfl (.slice (some ⟨w5.heap.size,0,none⟩) 1 1))
 have Hi:=H5.out.besides hi (fun q _ e=>.inr e);obtain⟨w6,hd⟩:∃ x,x=wi.alloc (.cells #[.int .i64 m3.next] 3):=⟨_,rfl⟩
 rw[←ha,←hd];have t6:Zb (fun q=>q=tb) w5 w6:=by rw[hd];exact hi.alloc _
 obtain⟨m6,hn⟩:∃ x,x=m5:=⟨_,rfl⟩
 have H6:=hid (H5.out.besides t6 (fun q _ e=>.inr e));have MV6:=hid (MV5.out.beside t6 (fun q hq e=>by have h9:q=tb:=e;have:=hI.out;omega));have SM6:=SM5;have TB6:=zH (HeapIs w6 tb #[.int .i64 3,.slice (some ⟨w5.heap.size,0,none⟩) 1 1,.slice ta tl tc,.int .i32 0] 175∧¬ Own mb (.slice (some ⟨bb,0,none⟩) nb nb) m5 tb) ⟨(by rw[hd];refine HeapIs.keep ?_ ((Since.refl _).alloc _);rw[ha];exact (TB5.out.1.set 1 (.slice (some ⟨w5.heap.size,0,none⟩) 1 1))),TB5.out.2⟩;have TO6:=zH (Zd _ _ _∧Stays (ZE (CT C tb) mb (.slice (some ⟨bb,0,none⟩) nb nb) m5) _ _) ⟨TO5.out.1.turn t6 fun q hq e=>(TO5.out.2 q hq).1 (.inr (.inr e)),TO5.out.2.mono (fun _ h=>.inl h) t6.size⟩;have h9:=Hi.newInts [m3.next] #[.int .i64 m3.next] rfl 1 rfl zap 3;rw[hu,←hd]at h9;have AR6:=hid h9;clear h9;rw[←hn]at H6 MV6 SM6 TB6 TO6 AR6;have nx6:m5.next≤m6.next:=by rw[hn];exact Int.le_refl _
 clear hd hn t6 ha hu hi Hi kf5 kl5 kc5_0 kc5_1 kc5_2 kc5_3;obtain⟨kb,hz⟩:∃ k,m6.bks[b]? = some k:=⟨_,List.getElem?_eq_getElem zah⟩
 have KB:=hid hz;clear hz;refine Zh 9 rfl zaC zaC zaC zaJ
  [Is (.pointer (some ⟨mb,0,none⟩)),Is (.pointer (some ⟨mb,0,none⟩)),Is (.pointer (some ⟨mb,2,none⟩)),Is (.pointer (some ⟨mb,3,none⟩)),Is (.slice (some ⟨bb,0,none⟩) nb nb),Is (.int .i64 b),Is (.agg #[.int .i64 3,.slice (some ⟨w5.heap.size,0,none⟩) 1 1,.slice ta tl tc,.int .i32 0]),Is (.pointer (some ⟨bb,b*6,none⟩)),Is (.pointer (some ⟨bb,b*6+2,none⟩))]
  kX ⟨?_,?_,?_,?_,?_,?_,?_,?_,?_,trivial⟩ ?_
 rotate_right
 ·intro vs w30 hs hk;revert hk;refine zs0 ?_;intro hk
  have hf:=Xw (o:=b*6+2) (n:=4) ((H6.out.bbAt (bb:=bb) rfl).keep hs) (by rw[List.size_toArray,XS fbcells 6 ZZ,MV6.out.len];have:=HB.out;omega);have HS:=hid hs;clear hs hk;refine wpList_store_mid rfl 175 _ _ rfl bb (b*6+2) #[.int .i64 3,.slice (some ⟨w5.heap.size,0,none⟩) 1 1,.slice ta tl tc,.int .i32 0] rfl rfl hf zaF k9 ?_
  clear hf;have HF:=hid (Wu (tol:=tol) (t:=⟨3,[m3.next],.slice (some ⟨w5.heap.size,0,none⟩) 1 1,tol,.slice ta tl tc,0⟩) H6.out MV6.out zaJ zaJ zaJ HS.out KB.out rfl ⟨⟨AR6.out.1,TO6.out.1⟩,AR6.out.2,TO6.out.2⟩ rfl ⟨kY,(fun y hy=>by obtain rfl:=List.mem_singleton.1 hy;constructor<;>omega),hH.out,.inr (.inr (.inl ⟨rfl,rfl,(by rw[hB.out];omega),(by rw[hB.out];omega)⟩))⟩);exact kK
 all_goals
  intro vs w30 hs hk _;revert hk;refine zs1 ?_;intro hk
 iterate 4
  ·exact kH
 ·have hm:=HeapIs.keep (show HeapIs w6 mb _ _ from H6.out.made) hs;have hc:w30.cell? ⟨mb,3,none⟩=some (.slice (some ⟨bb,0,none⟩) nb nb):=hm.cell 3;have hl:=hm.lt;clear hm;exact kH
 ·exact kH
 ·have hF:=TB6.out.1.keep hs;clear hk;refine wpList_load_row rfl _ _ rfl tb rfl 175 _ (0,0) _ hF underlying175 rfl zaF ?_;exact kH
 ·have hR:b<nb:=by rw[←hC.out];exact HB.out
  have hQ:nb≤512:=by rw[←hC.out,←MV6.out.len];exact H6.out.few
  exact kH
 ·exact kH
theorem Ze5 (h:MkOk C mb bv sv l m w) (hs:Sm 10 m) (b:Nat) (hb:b<m.bks.length) (tov:Value) (tol:List Int) (hc:Zd w tov tol∧Stays (ZE C mb bv m) w tov) (ha:∀ x∈tol,1≤x∧x<(m.bks.length:Int)) (hd:tol.length≤65) :
  Calls prog 112 #[.pointer (some ⟨mb,0,none⟩),.int .i64 b,tov] w (Qw C mb bv sv l w m b tol):=by
 by_cases h0:tol.length=0
 ·exact Zbb h hs b hb tov tol hc ha h0
 by_cases h1:tol.length=1
 ·exact Zb0 h hs b hb tov tol hc ha h1
 by_cases h2:tol.length=2
 ·exact ZbZ h hs b hb tov tol hc ha h2
 ·exact Zbc h hs b hb tov tol hc ha ⟨zaK,hd⟩
end
end Go.Proofs.YtimpddecdodddaaGreat
