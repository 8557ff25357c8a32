/- MkEnd -/
import Derived.Test.YtmhojfpidedjeaaGreatDoorTq31
namespace Go.Proofs.YtmhojfpidedjeaaGreatDoor
open Go.RowKit
set_option linter.unusedVariables false
def CT (C:Nat→Prop) (tb q:Nat):Prop:=C q∨q=tb
structure MvT (mb:Nat) (bv:Value) (w:World) (m:MkSt) (w':World) (m':MkSt) (a n i b:Nat) (t:FTerm):Prop where
 turn:Turn (Own mb bv m) w w'
 new:∀ q,Own mb bv m' q→Own mb bv m q∨w.heap.size≤q
 at_:m'.at_≤m.at_+a
 next:m.next≤m'.next∧m'.next≤m.next+n
 total:m'.total≤m.total+i
 live:m'.live.length≤m.live.length+2*i
 params:m'.params=m.params
 same:∃ k,m.bks[b]? = some k∧m'.bks.map skel=(m.bks.map skel).set b (k.phis,k.phv,t)
def EndQ (C:Nat→Prop) (mb:Nat) (bv sv:Value) (l:List Int) (w:World) (m:MkSt) (b:Nat) (tol:List Int) (e:Ending) (w':World):Prop:=
 ∃ m' t,e=.returned (.tuple #[])∧MkOk C mb bv sv l m' w'∧MvT mb bv w m w' m' 13 3 3 b t∧t.to=tol∧TermGood m'.next m.bks.length t
section
variable {C : Nat→Prop} {mb:Nat} {bv sv:Value} {l : List Int} {m m':MkSt} {w w':World}
theorem end_fin {wn w2:World} {mn:MkSt} {tb b bb:Nat} {k : FBlk} {a n i:Nat} {t : FTerm} {tol:List Int} (hn:MkOk (CT C tb) mb bv sv l mn wn) (hv:Mv mb bv w m wn mn a n i) (ha:a≤13) (hnn:n≤3) (hi:i≤3) (hs:Since wn w2) (hk:mn.bks[b]? = some k) (hbv:bv.ownBlock=some bb)
  (ht:FTermIn wn t∧Stays (OwnC (CT C tb) mb bv mn) wn t.argsv∧Stays (OwnC (CT C tb) mb bv mn) wn t.tov) (hto:t.to=tol) (hg:TermGood mn.next m.bks.length t) :
  EndQ C mb bv sv l w m b tol (.returned (.tuple #[])) (w2.setCells bb (b*6+2) [.int .i64 t.kind,t.argsv,t.tov,.int .i32 t.imm]):=by
 have h2:=(hn.keep hs).setTerm hk hbv t ⟨ht.1.keep hs,ht.2.1.keep hs,ht.2.2.keep hs⟩
 obtain⟨h3,h4,h5⟩:=h2
 have hv2:=hv.keep hs
 have hb9:Own mb bv mn bb:=.inr (.inl hbv)
 refine⟨_,t,rfl,h3.swapC (Turn.refl (fun _=>False) _) (fun q _ e=>e.elim) (fun q hq=>⟨.inl (.inl hq),(h3.aside q (.inl hq)).1⟩),⟨?_,?_,by have:=hv2.at_;show mn.at_≤_;omega,by have:=hv2.next;show m.next≤mn.next∧mn.next≤_;omega,?_,by have:=hv2.live;show mn.live.length≤_;omega,hv2.same.1,?_⟩,hto,hg⟩
 ·have hz:=hv2.turn.size
  have e1:Turn (fun q=>Own mb bv m q∨w.heap.size≤q) w w2:=hv2.turn.mono fun _ _ h=>.inl h
  have e2:Turn (fun q=>Own mb bv m q∨w.heap.size≤q) w2 _:=h4.mono fun q _ hq=>hv2.new q (hq ▸ hb9)
  refine (e1.trans e2).mono fun q hq hs=>?_
  rcases hs with hs|hs
  ·exact hs
  ·omega
 ·intro q hq
  rcases h5 q hq with h6|h6
  ·exact hv2.new q h6
  ·have:=hv2.turn.size
   exact .inr (by omega)
 ·have:MkSt.total { mn with bks:=mn.bks.set b { k with term:=t } }=mn.total:=by
   unfold MkSt.total
   dsimp only
   congr 1
   rw[List.map_set]
   apply List.ext_getElem?
   intro j
   rw[List.getElem?_set]
   by_cases hj:b=j
   ·subst hj
    rw[if_pos rfl,List.getElem?_map,hk]
    have hlt:b<mn.bks.length:=(List.getElem?_eq_some_iff.1 hk).1
    rw[if_pos (by simpa using hlt)];rfl
   ·rw[if_neg hj]
  rw[this]
  have:=hv2.total
  omega
 ·have hlt:b<mn.bks.length:=(List.getElem?_eq_some_iff.1 hk).1
  have hsk:mn.bks.map skel=m.bks.map skel:=hv2.same.2
  have h6:(mn.bks.map skel)[b]? = some (skel k):=by rw[List.getElem?_map,hk];rfl
  rw[hsk,List.getElem?_map]at h6
  obtain⟨k0,hk0,he⟩:=Option.map_eq_some_iff.1 h6
  refine⟨k0,hk0,?_⟩
  show (mn.bks.set b _).map skel=_
  rw[List.map_set,hsk]
  have e1:k0.phis=k.phis:=congrArg (·.1) he
  have e2:k0.phv=k.phv:=congrArg (·.2.1) he
  rw[e1,e2];rfl
set_option maxHeartbeats 2000000 in
set_option maxRecDepth 100000 in
theorem mk_end_none (h:MkOk C mb bv sv l m w) (hs:Sm 10 m) (b:Nat) (hb:b<m.bks.length) (tov:Value) (tol:List Int) (hto:Ints w tov tol∧Stays (OwnC C mb bv m) w tov) (htr:∀ x∈tol,1≤x∧x<(m.bks.length:Int)) (htn:tol.length=0) :
  Calls Tryz.prog 63 #[.pointer (some ⟨mb,0,none⟩),.int .i64 b,tov] w (EndQ C mb bv sv l w m b tol):=by
 obtain⟨nb,hnb⟩:∃ n,m.bks.length=n:=⟨_,rfl⟩
 obtain⟨bb,hbv⟩:∃ bb,bv=.slice (some ⟨bb,0,none⟩) nb nb:=by
  rcases h.bks with ⟨_,h2⟩|⟨bb,h1,_⟩
  ·rw[h2]at hb;simp at hb
  ·exact⟨bb,by rw[←hnb];exact h1⟩
 subst hbv
 obtain⟨ta,tc,htv⟩:=nums_lenI hto.1
 obtain⟨tl,htl⟩:∃ n,tol.length=n:=⟨_,rfl⟩
 rw[htl]at htv htn
 subst htv
 obtain⟨tb,htb⟩:∃ q,q=w.heap.size:=⟨_,rfl⟩
 obtain⟨w1,hw1⟩:∃ x,x=w.alloc (.cells #[.int .i64 4,.slice none 0 0,.slice none 0 0,.int .i32 0] 54):=⟨_,rfl⟩
 have hs1:Since w w1:=by rw[hw1];exact (Since.refl _).alloc _
 have hz1:w1.heap.size=w.heap.size+1:=by rw[hw1];simp
 obtain⟨m1,hm1⟩:∃ x,x=m:=⟨_,rfl⟩
 have hc1:∀ q,CT C tb q→(C q∨w.heap.size≤q)∧q<w1.heap.size:=by
  rintro q (hq|hq)
  ·exact⟨.inl hq,by have:=(h.aside q hq).1;omega⟩
  ·exact⟨.inr (by omega),by omega⟩
 have H1:=Lib.hid (h.swapC (Turn.since (S:=fun _=>False) hs1) (fun q _ e=>e.elim) hc1)
 have MV1:=Lib.hid ((Mv.refl mb (.slice (some ⟨bb,0,none⟩) nb nb) w m).keep hs1)
 have SM1:=Lib.hid hs
 have TB1:=Lib.hid (show HeapIs w1 tb #[.int .i64 4,.slice none 0 0,.slice none 0 0,.int .i32 0] 54∧¬ Own mb (.slice (some ⟨bb,0,none⟩) nb nb) m tb from⟨by rw[hw1,htb];exact HeapIs.new _ _ _,fun h1=>by have:=h.ltOwn h1;omega⟩)
 have TO1:=Lib.hid (show Ints w1 (.slice ta tl tc) tol∧Stays (OwnC (CT C tb) mb (.slice (some ⟨bb,0,none⟩) nb nb) m) w1 (.slice ta tl tc) from⟨hto.1.keep hs1,hto.2.mono (by
  rintro q (hq|hq|hq)
  ·exact .inl (.inl hq)
  ·exact .inl (.inr hq)
  ·exact .inr (by omega)) hs1.size⟩)
 have HTB:=Lib.hid (show w.heap.size≤tb from by omega)
 have HB:=Lib.hid hb
 have HTR:=Lib.hid htr
 have HTL:=Lib.hid htl
 have HNB:=Lib.hid hnb
 rw[←hm1]at H1 SM1 TB1 TO1
 have MV1:=Lib.hid (show Mv mb _ w m w1 m1 0 0 0 from by rw[hm1];exact MV1.out)
 have HB:=Lib.hid (show b<m.bks.length from HB.out)
 have nx1:0≤m1.next:=H1.out.next0
 subst htn
 have HT0:=Lib.hid (show tol=[] from List.length_eq_zero_iff.1 HTL.out)
 clear h hs hb hto htr hc1 hm1
 go_enter Tryz.func63,Tryz.ntmps63
 go_wp2_with fail
 rw[←htb,←hw1]
 clear hw1 hz1 hs1 htb
 refine (mk_take H1.out 8 (by decide) (by have:=SM1.out.1;omega)).mono ?_
 rintro e w2 ⟨m2,⟨kk,rfl,⟨hkk0,hkk1⟩,hm2⟩,h2,mv2⟩
 have H2:=Lib.hid h2
 have MV2:=Lib.hid (MV1.out.trans mv2)
 have SM2:=Lib.hid (SM1.out.mv mv2 (by decide) (by decide) (by decide))
 have nx2:m1.next≤m2.next:=by rw[hm2];exact Int.le_refl _
 clear hm2
 have TB2:=Lib.hid (mv2.carry TB1.out)
 have TO2:=Lib.hid (show Ints _ _ _∧Stays _ _ _ from⟨mv2.nums TO1.out.1 TO1.out.2,mv2.stays TO1.out.2⟩)
 clear h2 mv2
 by_cases hk0:kk=0
 ·subst hk0
  have kl2:=TB2.out.1.lt
  have kf2:=TB2.out.1.frozen
  have kc2_0:w2.cell? ⟨tb,0,none⟩=some (.int .i64 4):=TB2.out.1.cell 0
  have kc2_1:w2.cell? ⟨tb,1,none⟩=some (.slice none 0 0):=TB2.out.1.cell 1
  have kc2_2:w2.cell? ⟨tb,2,none⟩=some (.slice none 0 0):=TB2.out.1.cell 2
  have kc2_3:w2.cell? ⟨tb,3,none⟩=some (.int .i32 0):=TB2.out.1.cell 3
  go_wp2_with fail
  obtain⟨w3,hw3⟩:∃ x,x=(w2.setCell ⟨tb,0,none⟩ (.int .i64 5)):=⟨_,rfl⟩
  rw[←hw3]
  have t3:Turn (fun q=>q=tb) w2 w3:=by rw[hw3];exact ((Turn.refl (fun q=>q=tb) w2).setCell (p:=⟨tb,0,none⟩) rfl (.int .i64 5))
  obtain⟨m3,hm3⟩:∃ x,x=m2:=⟨_,rfl⟩
  have H3:=Lib.hid (H2.out.besides t3 (fun q _ e=>.inr e))
  have MV3:=Lib.hid (MV2.out.beside t3 (fun q hq e=>by have h9:q=tb:=e;have:=HTB.out;omega))
  have SM3:=SM2
  have TB3:=Lib.hid (show HeapIs w3 tb #[.int .i64 5,.slice none 0 0,.slice none 0 0,.int .i32 0] 54∧¬ Own mb (.slice (some ⟨bb,0,none⟩) nb nb) m2 tb from⟨(by rw[hw3];exact (TB2.out.1.set 0 (.int .i64 5))),TB2.out.2⟩)
  have TO3:=Lib.hid (show Ints _ _ _∧Stays (OwnC (CT C tb) mb (.slice (some ⟨bb,0,none⟩) nb nb) m2) _ _ from⟨TO2.out.1.turn t3 fun q hq e=>(TO2.out.2 q hq).1 (.inr (.inr e)),TO2.out.2.mono (fun _ h=>.inl h) t3.size⟩)
  rw[←hm3]at H3 MV3 SM3 TB3 TO3
  have nx3:m2.next≤m3.next:=by rw[hm3];exact Int.le_refl _
  clear hw3 hm3 t3 kf2 kl2 kc2_0 kc2_1 kc2_2 kc2_3
  refine (mk_take H3.out 200 (by decide) (by have:=SM3.out.1;omega)).mono ?_
  rintro e w4 ⟨m4,⟨u,rfl,⟨hu0,hu1⟩,hm4⟩,h4,mv4⟩
  have H4:=Lib.hid h4
  have MV4:=Lib.hid (MV3.out.trans mv4)
  have SM4:=Lib.hid (SM3.out.mv mv4 (by decide) (by decide) (by decide))
  have nx4:m3.next≤m4.next:=by rw[hm4];exact Int.le_refl _
  clear hm4
  have TB4:=Lib.hid (mv4.carry TB3.out)
  have TO4:=Lib.hid (show Ints _ _ _∧Stays _ _ _ from⟨mv4.nums TO3.out.1 TO3.out.2,mv4.stays TO3.out.2⟩)
  clear h4 mv4
  have kl4:=TB4.out.1.lt
  have kf4:=TB4.out.1.frozen
  have kc4_0:w4.cell? ⟨tb,0,none⟩=some (.int .i64 5):=TB4.out.1.cell 0
  have kc4_1:w4.cell? ⟨tb,1,none⟩=some (.slice none 0 0):=TB4.out.1.cell 1
  have kc4_2:w4.cell? ⟨tb,2,none⟩=some (.slice none 0 0):=TB4.out.1.cell 2
  have kc4_3:w4.cell? ⟨tb,3,none⟩=some (.int .i32 0):=TB4.out.1.cell 3
  go_wp2_with fail
  obtain⟨w5,hw5⟩:∃ x,x=(w4.setCell ⟨tb,3,none⟩ (.int .i32 u)):=⟨_,rfl⟩
  rw[←hw5]
  have t5:Turn (fun q=>q=tb) w4 w5:=by rw[hw5];exact ((Turn.refl (fun q=>q=tb) w4).setCell (p:=⟨tb,3,none⟩) rfl (.int .i32 u))
  obtain⟨m5,hm5⟩:∃ x,x=m4:=⟨_,rfl⟩
  have H5:=Lib.hid (H4.out.besides t5 (fun q _ e=>.inr e))
  have MV5:=Lib.hid (MV4.out.beside t5 (fun q hq e=>by have h9:q=tb:=e;have:=HTB.out;omega))
  have SM5:=SM4
  have TB5:=Lib.hid (show HeapIs w5 tb #[.int .i64 5,.slice none 0 0,.slice none 0 0,.int .i32 u] 54∧¬ Own mb (.slice (some ⟨bb,0,none⟩) nb nb) m4 tb from⟨(by rw[hw5];exact (TB4.out.1.set 3 (.int .i32 u))),TB4.out.2⟩)
  have TO5:=Lib.hid (show Ints _ _ _∧Stays (OwnC (CT C tb) mb (.slice (some ⟨bb,0,none⟩) nb nb) m4) _ _ from⟨TO4.out.1.turn t5 fun q hq e=>(TO4.out.2 q hq).1 (.inr (.inr e)),TO4.out.2.mono (fun _ h=>.inl h) t5.size⟩)
  rw[←hm5]at H5 MV5 SM5 TB5 TO5
  have nx5:m4.next≤m5.next:=by rw[hm5];exact Int.le_refl _
  clear hw5 hm5 t5 kf4 kl4 kc4_0 kc4_1 kc4_2 kc4_3
  obtain⟨kb,hkb⟩:∃ k,m5.bks[b]? = some k:=⟨_,List.getElem?_eq_getElem (by rw[MV5.out.len];exact HB.out)⟩
  have KB:=Lib.hid hkb
  clear hkb
  refine wp_region_since_tail 9 rfl (by decide +kernel) (by decide +kernel) (by decide +kernel) (by decide)
   [Is (.pointer (some ⟨mb,0,none⟩)),Is (.pointer (some ⟨mb,0,none⟩)),Is (.pointer (some ⟨mb,2,none⟩)),Is (.pointer (some ⟨mb,3,none⟩)),Is (.slice (some ⟨bb,0,none⟩) nb nb),Is (.int .i64 b),Is (.agg #[.int .i64 5,.slice none 0 0,.slice none 0 0,.int .i32 u]),Is (.pointer (some ⟨bb,b*6,none⟩)),Is (.pointer (some ⟨bb,b*6+2,none⟩))]
   (by repeat (first | exact trivial | refine⟨Is.stable _,?_⟩)) ⟨?_,?_,?_,?_,?_,?_,?_,?_,?_,trivial⟩ ?_
  rotate_right
  ·intro vs w30 hs hk
   simp only[List.take,List.drop,putAll,Act.put,KnowsAll,nthF,Is,List.setIfInBounds_toArray,List.set_cons_zero,List.set_cons_succ,Nat.reduceAdd]at hk ⊢
   try simp only[hk]
   have hthere:=heap_there (o:=b*6+2) (n:=4) ((H5.out.bbAt (bb:=bb) rfl).keep hs) (by rw[List.size_toArray,flat_len fbcells 6 fbcells_len,MV5.out.len];have:=HB.out;omega)
   have HS:=Lib.hid hs
   clear hs hk
   refine wpList_store_mid rfl 54 _ _ rfl bb (b*6+2) #[.int .i64 5,.slice none 0 0,.slice none 0 0,.int .i32 u] rfl rfl hthere (by kernel_rfl) (by first | rfl | (simp[Value.oneCell'])) ?_
   clear hthere
   have HF:=Lib.hid (end_fin (tol:=tol) (t:=⟨5,[],.slice none 0 0,[],.slice none 0 0,u⟩) H5.out MV5.out (by decide) (by decide) (by decide) HS.out KB.out rfl ⟨⟨.nil _ _,.nil _ _⟩,.nil _ _,.nil _ _⟩ (List.length_eq_zero_iff.1 HTL.out).symm ⟨(by show (-2147483648:Int)≤u∧u≤2147483647;omega),(fun y hy=>by cases hy),(fun y hy=>by cases hy),.inr (.inr (.inr (.inr ⟨rfl,rfl,rfl⟩)))⟩)
   go_wp2
   go_end0
   exact HF.out
  all_goals
   intro vs w30 hs hk _
   simp only[List.take,putAll,Act.put,Knows,nthF,Is,List.setIfInBounds_toArray,List.set_cons_zero,List.set_cons_succ,Nat.reduceAdd]at hk ⊢
   try simp only[hk]
  ·go_wp2
   exact⟨_,rfl,rfl,Since.refl _⟩
  ·go_wp2
   exact⟨_,rfl,rfl,Since.refl _⟩
  ·go_wp2
   exact⟨_,rfl,rfl,Since.refl _⟩
  ·go_wp2
   exact⟨_,rfl,rfl,Since.refl _⟩
  ·have hmd:=HeapIs.keep (show HeapIs w5 mb _ _ from H5.out.made) hs
   have hc:w30.cell? ⟨mb,3,none⟩=some (.slice (some ⟨bb,0,none⟩) nb nb):=hmd.cell 3
   have hl:=hmd.lt
   clear hmd
   go_wp2
   exact⟨_,rfl,rfl,Since.refl _⟩
  ·go_wp2
   exact⟨_,rfl,rfl,Since.refl _⟩
  ·have hbx:=TB5.out.1.keep hs
   clear hk
   refine wpList_load_row rfl _ _ rfl tb rfl 54 _ (0,0) _ hbx Tryz.underlying54 rfl (by kernel_rfl) ?_
   go_wp2
   exact⟨_,rfl,rfl,Since.refl _⟩
  ·have hbl:b<nb:=by rw[←HNB.out];exact HB.out
   have hnl:nb≤512:=by rw[←HNB.out,←MV5.out.len];exact H5.out.few
   go_wp2
   exact⟨_,rfl,rfl,Since.refl _⟩
  ·go_wp2
   exact⟨_,rfl,rfl,Since.refl _⟩
 ·have hkq:(kk==0)=false:=by simpa using hk0
  clear hk0
  by_cases hk1:1<kk
  ·skip
   have kl2:=TB2.out.1.lt
   have kf2:=TB2.out.1.frozen
   have kc2_0:w2.cell? ⟨tb,0,none⟩=some (.int .i64 4):=TB2.out.1.cell 0
   have kc2_1:w2.cell? ⟨tb,1,none⟩=some (.slice none 0 0):=TB2.out.1.cell 1
   have kc2_2:w2.cell? ⟨tb,2,none⟩=some (.slice none 0 0):=TB2.out.1.cell 2
   have kc2_3:w2.cell? ⟨tb,3,none⟩=some (.int .i32 0):=TB2.out.1.cell 3
   go_wp2_with fail
   clear kl2 kf2 kc2_0 kc2_1 kc2_2 kc2_3
   refine (mk_some H2.out (SM2.out.mono (by decide)) b (by rw[MV2.out.len];exact HB.out)).mono ?_
   rintro e w3 ⟨m3,⟨v,rfl,hv0,hv1⟩,h3,mv3⟩
   have H3:=Lib.hid h3
   have MV3:=Lib.hid (MV2.out.trans mv3)
   have SM3:=Lib.hid (SM2.out.mv mv3 (by decide) (by decide) (by decide))
   have nx3:=mv3.next.1
   have TB3:=Lib.hid (mv3.carry TB2.out)
   have TO3:=Lib.hid (show Ints _ _ _∧Stays _ _ _ from⟨mv3.nums TO2.out.1 TO2.out.2,mv3.stays TO2.out.2⟩)
   clear h3 mv3
   have kl3:=TB3.out.1.lt
   have kf3:=TB3.out.1.frozen
   have kc3_0:w3.cell? ⟨tb,0,none⟩=some (.int .i64 4):=TB3.out.1.cell 0
   have kc3_1:w3.cell? ⟨tb,1,none⟩=some (.slice none 0 0):=TB3.out.1.cell 1
   have kc3_2:w3.cell? ⟨tb,2,none⟩=some (.slice none 0 0):=TB3.out.1.cell 2
   have kc3_3:w3.cell? ⟨tb,3,none⟩=some (.int .i32 0):=TB3.out.1.cell 3
   go_wp2_with fail
   obtain⟨wi,hwi⟩:∃ x,x=(w3.setCell ⟨tb,1,none⟩ (.slice (some ⟨w3.heap.size,0,none⟩) 1 1)):=⟨_,rfl⟩
   have hsi:wi.heap.size=w3.heap.size:=by rw[hwi];exact setCell_size _ _ _
   have hti:Turn (fun q=>q=tb) w3 wi:=by rw[hwi];exact ((Turn.refl (fun q=>q=tb) w3).setCell (p:=⟨tb,1,none⟩) rfl (.slice (some ⟨w3.heap.size,0,none⟩) 1 1))
   have Hi:=H3.out.besides hti (fun q _ e=>.inr e)
   obtain⟨w4,hw4⟩:∃ x,x=wi.alloc (.cells #[.int .i64 v] 3):=⟨_,rfl⟩
   rw[←hwi,←hw4]
   have t4:Turn (fun q=>q=tb) w3 w4:=by rw[hw4];exact hti.alloc _
   obtain⟨m4,hm4⟩:∃ x,x=m3:=⟨_,rfl⟩
   have H4:=Lib.hid (H3.out.besides t4 (fun q _ e=>.inr e))
   have MV4:=Lib.hid (MV3.out.beside t4 (fun q hq e=>by have h9:q=tb:=e;have:=HTB.out;omega))
   have SM4:=SM3
   have TB4:=Lib.hid (show HeapIs w4 tb #[.int .i64 4,.slice (some ⟨w3.heap.size,0,none⟩) 1 1,.slice none 0 0,.int .i32 0] 54∧¬ Own mb (.slice (some ⟨bb,0,none⟩) nb nb) m3 tb from⟨(by rw[hw4];refine HeapIs.keep ?_ ((Since.refl _).alloc _);rw[hwi];exact (TB3.out.1.set 1 (.slice (some ⟨w3.heap.size,0,none⟩) 1 1))),TB3.out.2⟩)
   have TO4:=Lib.hid (show Ints _ _ _∧Stays (OwnC (CT C tb) mb (.slice (some ⟨bb,0,none⟩) nb nb) m3) _ _ from⟨TO3.out.1.turn t4 fun q hq e=>(TO3.out.2 q hq).1 (.inr (.inr e)),TO3.out.2.mono (fun _ h=>.inl h) t4.size⟩)
   have h9:=Hi.newInts [v] #[.int .i64 v] rfl 1 rfl (by show 1≤maxLen;decide) 3
   rw[hsi,←hw4]at h9
   have AR4:=Lib.hid h9
   clear h9
   rw[←hm4]at H4 MV4 SM4 TB4 TO4 AR4
   have nx4:m3.next≤m4.next:=by rw[hm4];exact Int.le_refl _
   clear hw4 hm4 t4 hwi hsi hti Hi kf3 kl3 kc3_0 kc3_1 kc3_2 kc3_3
   obtain⟨kb,hkb⟩:∃ k,m4.bks[b]? = some k:=⟨_,List.getElem?_eq_getElem (by rw[MV4.out.len];exact HB.out)⟩
   have KB:=Lib.hid hkb
   clear hkb
   refine wp_region_since_tail 9 rfl (by decide +kernel) (by decide +kernel) (by decide +kernel) (by decide)
    [Is (.pointer (some ⟨mb,0,none⟩)),Is (.pointer (some ⟨mb,0,none⟩)),Is (.pointer (some ⟨mb,2,none⟩)),Is (.pointer (some ⟨mb,3,none⟩)),Is (.slice (some ⟨bb,0,none⟩) nb nb),Is (.int .i64 b),Is (.agg #[.int .i64 4,.slice (some ⟨w3.heap.size,0,none⟩) 1 1,.slice none 0 0,.int .i32 0]),Is (.pointer (some ⟨bb,b*6,none⟩)),Is (.pointer (some ⟨bb,b*6+2,none⟩))]
    (by repeat (first | exact trivial | refine⟨Is.stable _,?_⟩)) ⟨?_,?_,?_,?_,?_,?_,?_,?_,?_,trivial⟩ ?_
   rotate_right
   ·intro vs w30 hs hk
    simp only[List.take,List.drop,putAll,Act.put,KnowsAll,nthF,Is,List.setIfInBounds_toArray,List.set_cons_zero,List.set_cons_succ,Nat.reduceAdd]at hk ⊢
    try simp only[hk]
    have hthere:=heap_there (o:=b*6+2) (n:=4) ((H4.out.bbAt (bb:=bb) rfl).keep hs) (by rw[List.size_toArray,flat_len fbcells 6 fbcells_len,MV4.out.len];have:=HB.out;omega)
    have HS:=Lib.hid hs
    clear hs hk
    refine wpList_store_mid rfl 54 _ _ rfl bb (b*6+2) #[.int .i64 4,.slice (some ⟨w3.heap.size,0,none⟩) 1 1,.slice none 0 0,.int .i32 0] rfl rfl hthere (by kernel_rfl) (by first | rfl | (simp[Value.oneCell'])) ?_
    clear hthere
    have HF:=Lib.hid (end_fin (tol:=tol) (t:=⟨4,[v],.slice (some ⟨w3.heap.size,0,none⟩) 1 1,[],.slice none 0 0,0⟩) H4.out MV4.out (by decide) (by decide) (by decide) HS.out KB.out rfl ⟨⟨AR4.out.1,.nil _ _⟩,AR4.out.2,.nil _ _⟩ (List.length_eq_zero_iff.1 HTL.out).symm ⟨(by show (-2147483648:Int)≤0∧(0:Int)≤2147483647;decide),(fun y hy=>by obtain rfl:=List.mem_singleton.1 hy;constructor<;>omega),(fun y hy=>by cases hy),.inr (.inr (.inr (.inl ⟨rfl,Nat.le_refl _,rfl⟩)))⟩)
    go_wp2
    go_end0
    exact HF.out
   all_goals
    intro vs w30 hs hk _
    simp only[List.take,putAll,Act.put,Knows,nthF,Is,List.setIfInBounds_toArray,List.set_cons_zero,List.set_cons_succ,Nat.reduceAdd]at hk ⊢
    try simp only[hk]
   ·go_wp2
    exact⟨_,rfl,rfl,Since.refl _⟩
   ·go_wp2
    exact⟨_,rfl,rfl,Since.refl _⟩
   ·go_wp2
    exact⟨_,rfl,rfl,Since.refl _⟩
   ·go_wp2
    exact⟨_,rfl,rfl,Since.refl _⟩
   ·have hmd:=HeapIs.keep (show HeapIs w4 mb _ _ from H4.out.made) hs
    have hc:w30.cell? ⟨mb,3,none⟩=some (.slice (some ⟨bb,0,none⟩) nb nb):=hmd.cell 3
    have hl:=hmd.lt
    clear hmd
    go_wp2
    exact⟨_,rfl,rfl,Since.refl _⟩
   ·go_wp2
    exact⟨_,rfl,rfl,Since.refl _⟩
   ·have hbx:=TB4.out.1.keep hs
    clear hk
    refine wpList_load_row rfl _ _ rfl tb rfl 54 _ (0,0) _ hbx Tryz.underlying54 rfl (by kernel_rfl) ?_
    go_wp2
    exact⟨_,rfl,rfl,Since.refl _⟩
   ·have hbl:b<nb:=by rw[←HNB.out];exact HB.out
    have hnl:nb≤512:=by rw[←HNB.out,←MV4.out.len];exact H4.out.few
    go_wp2
    exact⟨_,rfl,rfl,Since.refl _⟩
   ·go_wp2
    exact⟨_,rfl,rfl,Since.refl _⟩
  ·skip
   have kl2:=TB2.out.1.lt
   have kf2:=TB2.out.1.frozen
   have kc2_0:w2.cell? ⟨tb,0,none⟩=some (.int .i64 4):=TB2.out.1.cell 0
   have kc2_1:w2.cell? ⟨tb,1,none⟩=some (.slice none 0 0):=TB2.out.1.cell 1
   have kc2_2:w2.cell? ⟨tb,2,none⟩=some (.slice none 0 0):=TB2.out.1.cell 2
   have kc2_3:w2.cell? ⟨tb,3,none⟩=some (.int .i32 0):=TB2.out.1.cell 3
   go_wp2_with fail
   clear kl2 kf2 kc2_0 kc2_1 kc2_2 kc2_3
   obtain⟨kb,hkb⟩:∃ k,m2.bks[b]? = some k:=⟨_,List.getElem?_eq_getElem (by rw[MV2.out.len];exact HB.out)⟩
   have KB:=Lib.hid hkb
   clear hkb
   refine wp_region_since_tail 9 rfl (by decide +kernel) (by decide +kernel) (by decide +kernel) (by decide)
    [Is (.pointer (some ⟨mb,0,none⟩)),Is (.pointer (some ⟨mb,0,none⟩)),Is (.pointer (some ⟨mb,2,none⟩)),Is (.pointer (some ⟨mb,3,none⟩)),Is (.slice (some ⟨bb,0,none⟩) nb nb),Is (.int .i64 b),Is (.agg #[.int .i64 4,.slice none 0 0,.slice none 0 0,.int .i32 0]),Is (.pointer (some ⟨bb,b*6,none⟩)),Is (.pointer (some ⟨bb,b*6+2,none⟩))]
    (by repeat (first | exact trivial | refine⟨Is.stable _,?_⟩)) ⟨?_,?_,?_,?_,?_,?_,?_,?_,?_,trivial⟩ ?_
   rotate_right
   ·intro vs w30 hs hk
    simp only[List.take,List.drop,putAll,Act.put,KnowsAll,nthF,Is,List.setIfInBounds_toArray,List.set_cons_zero,List.set_cons_succ,Nat.reduceAdd]at hk ⊢
    try simp only[hk]
    have hthere:=heap_there (o:=b*6+2) (n:=4) ((H2.out.bbAt (bb:=bb) rfl).keep hs) (by rw[List.size_toArray,flat_len fbcells 6 fbcells_len,MV2.out.len];have:=HB.out;omega)
    have HS:=Lib.hid hs
    clear hs hk
    refine wpList_store_mid rfl 54 _ _ rfl bb (b*6+2) #[.int .i64 4,.slice none 0 0,.slice none 0 0,.int .i32 0] rfl rfl hthere (by kernel_rfl) (by first | rfl | (simp[Value.oneCell'])) ?_
    clear hthere
    have HF:=Lib.hid (end_fin (tol:=tol) (t:=⟨4,[],.slice none 0 0,[],.slice none 0 0,0⟩) H2.out MV2.out (by decide) (by decide) (by decide) HS.out KB.out rfl ⟨⟨.nil _ _,.nil _ _⟩,.nil _ _,.nil _ _⟩ (List.length_eq_zero_iff.1 HTL.out).symm ⟨(by show (-2147483648:Int)≤0∧(0:Int)≤2147483647;decide),(fun y hy=>by cases hy),(fun y hy=>by cases hy),.inr (.inr (.inr (.inl ⟨rfl,Nat.zero_le _,rfl⟩)))⟩)
    go_wp2
    go_end0
    exact HF.out
   all_goals
    intro vs w30 hs hk _
    simp only[List.take,putAll,Act.put,Knows,nthF,Is,List.setIfInBounds_toArray,List.set_cons_zero,List.set_cons_succ,Nat.reduceAdd]at hk ⊢
    try simp only[hk]
   ·go_wp2
    exact⟨_,rfl,rfl,Since.refl _⟩
   ·go_wp2
    exact⟨_,rfl,rfl,Since.refl _⟩
   ·go_wp2
    exact⟨_,rfl,rfl,Since.refl _⟩
   ·go_wp2
    exact⟨_,rfl,rfl,Since.refl _⟩
   ·have hmd:=HeapIs.keep (show HeapIs w2 mb _ _ from H2.out.made) hs
    have hc:w30.cell? ⟨mb,3,none⟩=some (.slice (some ⟨bb,0,none⟩) nb nb):=hmd.cell 3
    have hl:=hmd.lt
    clear hmd
    go_wp2
    exact⟨_,rfl,rfl,Since.refl _⟩
   ·go_wp2
    exact⟨_,rfl,rfl,Since.refl _⟩
   ·have hbx:=TB2.out.1.keep hs
    clear hk
    refine wpList_load_row rfl _ _ rfl tb rfl 54 _ (0,0) _ hbx Tryz.underlying54 rfl (by kernel_rfl) ?_
    go_wp2
    exact⟨_,rfl,rfl,Since.refl _⟩
   ·have hbl:b<nb:=by rw[←HNB.out];exact HB.out
    have hnl:nb≤512:=by rw[←HNB.out,←MV2.out.len];exact H2.out.few
    go_wp2
    exact⟨_,rfl,rfl,Since.refl _⟩
   ·go_wp2
    exact⟨_,rfl,rfl,Since.refl _⟩
set_option maxHeartbeats 2000000 in
set_option maxRecDepth 100000 in
theorem mk_end_one (h:MkOk C mb bv sv l m w) (hs:Sm 10 m) (b:Nat) (hb:b<m.bks.length) (tov:Value) (tol:List Int) (hto:Ints w tov tol∧Stays (OwnC C mb bv m) w tov) (htr:∀ x∈tol,1≤x∧x<(m.bks.length:Int)) (htn:tol.length=1) :
  Calls Tryz.prog 63 #[.pointer (some ⟨mb,0,none⟩),.int .i64 b,tov] w (EndQ C mb bv sv l w m b tol):=by
 obtain⟨nb,hnb⟩:∃ n,m.bks.length=n:=⟨_,rfl⟩
 obtain⟨bb,hbv⟩:∃ bb,bv=.slice (some ⟨bb,0,none⟩) nb nb:=by
  rcases h.bks with ⟨_,h2⟩|⟨bb,h1,_⟩
  ·rw[h2]at hb;simp at hb
  ·exact⟨bb,by rw[←hnb];exact h1⟩
 subst hbv
 obtain⟨ta,tc,htv⟩:=nums_lenI hto.1
 obtain⟨tl,htl⟩:∃ n,tol.length=n:=⟨_,rfl⟩
 rw[htl]at htv htn
 subst htv
 obtain⟨tb,htb⟩:∃ q,q=w.heap.size:=⟨_,rfl⟩
 obtain⟨w1,hw1⟩:∃ x,x=w.alloc (.cells #[.int .i64 1,.slice none 0 0,.slice ta tl tc,.int .i32 0] 54):=⟨_,rfl⟩
 have hs1:Since w w1:=by rw[hw1];exact (Since.refl _).alloc _
 have hz1:w1.heap.size=w.heap.size+1:=by rw[hw1];simp
 obtain⟨m1,hm1⟩:∃ x,x=m:=⟨_,rfl⟩
 have hc1:∀ q,CT C tb q→(C q∨w.heap.size≤q)∧q<w1.heap.size:=by
  rintro q (hq|hq)
  ·exact⟨.inl hq,by have:=(h.aside q hq).1;omega⟩
  ·exact⟨.inr (by omega),by omega⟩
 have H1:=Lib.hid (h.swapC (Turn.since (S:=fun _=>False) hs1) (fun q _ e=>e.elim) hc1)
 have MV1:=Lib.hid ((Mv.refl mb (.slice (some ⟨bb,0,none⟩) nb nb) w m).keep hs1)
 have SM1:=Lib.hid hs
 have TB1:=Lib.hid (show HeapIs w1 tb #[.int .i64 1,.slice none 0 0,.slice ta tl tc,.int .i32 0] 54∧¬ Own mb (.slice (some ⟨bb,0,none⟩) nb nb) m tb from⟨by rw[hw1,htb];exact HeapIs.new _ _ _,fun h1=>by have:=h.ltOwn h1;omega⟩)
 have TO1:=Lib.hid (show Ints w1 (.slice ta tl tc) tol∧Stays (OwnC (CT C tb) mb (.slice (some ⟨bb,0,none⟩) nb nb) m) w1 (.slice ta tl tc) from⟨hto.1.keep hs1,hto.2.mono (by
  rintro q (hq|hq|hq)
  ·exact .inl (.inl hq)
  ·exact .inl (.inr hq)
  ·exact .inr (by omega)) hs1.size⟩)
 have HTB:=Lib.hid (show w.heap.size≤tb from by omega)
 have HB:=Lib.hid hb
 have HTR:=Lib.hid htr
 have HTL:=Lib.hid htl
 have HNB:=Lib.hid hnb
 rw[←hm1]at H1 SM1 TB1 TO1
 have MV1:=Lib.hid (show Mv mb _ w m w1 m1 0 0 0 from by rw[hm1];exact MV1.out)
 have HB:=Lib.hid (show b<m.bks.length from HB.out)
 have nx1:0≤m1.next:=H1.out.next0
 subst htn
 clear h hs hb hto htr hc1 hm1
 go_enter Tryz.func63,Tryz.ntmps63
 go_wp2_with fail
 rw[←htb,←hw1]
 clear hw1 hz1 hs1 htb
 obtain⟨kb,hkb⟩:∃ k,m1.bks[b]? = some k:=⟨_,List.getElem?_eq_getElem (by rw[MV1.out.len];exact HB.out)⟩
 have KB:=Lib.hid hkb
 clear hkb
 refine wp_region_since_tail 9 rfl (by decide +kernel) (by decide +kernel) (by decide +kernel) (by decide)
  [Is (.pointer (some ⟨mb,0,none⟩)),Is (.pointer (some ⟨mb,0,none⟩)),Is (.pointer (some ⟨mb,2,none⟩)),Is (.pointer (some ⟨mb,3,none⟩)),Is (.slice (some ⟨bb,0,none⟩) nb nb),Is (.int .i64 b),Is (.agg #[.int .i64 1,.slice none 0 0,.slice ta 1 tc,.int .i32 0]),Is (.pointer (some ⟨bb,b*6,none⟩)),Is (.pointer (some ⟨bb,b*6+2,none⟩))]
  (by repeat (first | exact trivial | refine⟨Is.stable _,?_⟩)) ⟨?_,?_,?_,?_,?_,?_,?_,?_,?_,trivial⟩ ?_
 rotate_right
 ·intro vs w30 hs hk
  simp only[List.take,List.drop,putAll,Act.put,KnowsAll,nthF,Is,List.setIfInBounds_toArray,List.set_cons_zero,List.set_cons_succ,Nat.reduceAdd]at hk ⊢
  try simp only[hk]
  have hthere:=heap_there (o:=b*6+2) (n:=4) ((H1.out.bbAt (bb:=bb) rfl).keep hs) (by rw[List.size_toArray,flat_len fbcells 6 fbcells_len,MV1.out.len];have:=HB.out;omega)
  have HS:=Lib.hid hs
  clear hs hk
  refine wpList_store_mid rfl 54 _ _ rfl bb (b*6+2) #[.int .i64 1,.slice none 0 0,.slice ta 1 tc,.int .i32 0] rfl rfl hthere (by kernel_rfl) (by first | rfl | (simp[Value.oneCell'])) ?_
  clear hthere
  have HF:=Lib.hid (end_fin (tol:=tol) (t:=⟨1,[],.slice none 0 0,tol,.slice ta 1 tc,0⟩) H1.out MV1.out (by decide) (by decide) (by decide) HS.out KB.out rfl ⟨⟨.nil _ _,TO1.out.1⟩,.nil _ _,TO1.out.2⟩ rfl ⟨(by show (-2147483648:Int)≤0∧(0:Int)≤2147483647;decide),(fun y hy=>by cases hy),HTR.out,.inl ⟨rfl,rfl,HTL.out⟩⟩)
  go_wp2
  go_end0
  exact HF.out
 all_goals
  intro vs w30 hs hk _
  simp only[List.take,putAll,Act.put,Knows,nthF,Is,List.setIfInBounds_toArray,List.set_cons_zero,List.set_cons_succ,Nat.reduceAdd]at hk ⊢
  try simp only[hk]
 ·go_wp2
  exact⟨_,rfl,rfl,Since.refl _⟩
 ·go_wp2
  exact⟨_,rfl,rfl,Since.refl _⟩
 ·go_wp2
  exact⟨_,rfl,rfl,Since.refl _⟩
 ·go_wp2
  exact⟨_,rfl,rfl,Since.refl _⟩
 ·have hmd:=HeapIs.keep (show HeapIs w1 mb _ _ from H1.out.made) hs
  have hc:w30.cell? ⟨mb,3,none⟩=some (.slice (some ⟨bb,0,none⟩) nb nb):=hmd.cell 3
  have hl:=hmd.lt
  clear hmd
  go_wp2
  exact⟨_,rfl,rfl,Since.refl _⟩
 ·go_wp2
  exact⟨_,rfl,rfl,Since.refl _⟩
 ·have hbx:=TB1.out.1.keep hs
  clear hk
  refine wpList_load_row rfl _ _ rfl tb rfl 54 _ (0,0) _ hbx Tryz.underlying54 rfl (by kernel_rfl) ?_
  go_wp2
  exact⟨_,rfl,rfl,Since.refl _⟩
 ·have hbl:b<nb:=by rw[←HNB.out];exact HB.out
  have hnl:nb≤512:=by rw[←HNB.out,←MV1.out.len];exact H1.out.few
  go_wp2
  exact⟨_,rfl,rfl,Since.refl _⟩
 ·go_wp2
  exact⟨_,rfl,rfl,Since.refl _⟩
set_option maxHeartbeats 2000000 in
set_option maxRecDepth 100000 in
theorem mk_end_two (h:MkOk C mb bv sv l m w) (hs:Sm 10 m) (b:Nat) (hb:b<m.bks.length) (tov:Value) (tol:List Int) (hto:Ints w tov tol∧Stays (OwnC C mb bv m) w tov) (htr:∀ x∈tol,1≤x∧x<(m.bks.length:Int)) (htn:tol.length=2) :
  Calls Tryz.prog 63 #[.pointer (some ⟨mb,0,none⟩),.int .i64 b,tov] w (EndQ C mb bv sv l w m b tol):=by
 obtain⟨nb,hnb⟩:∃ n,m.bks.length=n:=⟨_,rfl⟩
 obtain⟨bb,hbv⟩:∃ bb,bv=.slice (some ⟨bb,0,none⟩) nb nb:=by
  rcases h.bks with ⟨_,h2⟩|⟨bb,h1,_⟩
  ·rw[h2]at hb;simp at hb
  ·exact⟨bb,by rw[←hnb];exact h1⟩
 subst hbv
 obtain⟨ta,tc,htv⟩:=nums_lenI hto.1
 obtain⟨tl,htl⟩:∃ n,tol.length=n:=⟨_,rfl⟩
 rw[htl]at htv htn
 subst htv
 obtain⟨tb,htb⟩:∃ q,q=w.heap.size:=⟨_,rfl⟩
 obtain⟨w1,hw1⟩:∃ x,x=w.alloc (.cells #[.int .i64 2,.slice none 0 0,.slice ta tl tc,.int .i32 0] 54):=⟨_,rfl⟩
 have hs1:Since w w1:=by rw[hw1];exact (Since.refl _).alloc _
 have hz1:w1.heap.size=w.heap.size+1:=by rw[hw1];simp
 obtain⟨m1,hm1⟩:∃ x,x=m:=⟨_,rfl⟩
 have hc1:∀ q,CT C tb q→(C q∨w.heap.size≤q)∧q<w1.heap.size:=by
  rintro q (hq|hq)
  ·exact⟨.inl hq,by have:=(h.aside q hq).1;omega⟩
  ·exact⟨.inr (by omega),by omega⟩
 have H1:=Lib.hid (h.swapC (Turn.since (S:=fun _=>False) hs1) (fun q _ e=>e.elim) hc1)
 have MV1:=Lib.hid ((Mv.refl mb (.slice (some ⟨bb,0,none⟩) nb nb) w m).keep hs1)
 have SM1:=Lib.hid hs
 have TB1:=Lib.hid (show HeapIs w1 tb #[.int .i64 2,.slice none 0 0,.slice ta tl tc,.int .i32 0] 54∧¬ Own mb (.slice (some ⟨bb,0,none⟩) nb nb) m tb from⟨by rw[hw1,htb];exact HeapIs.new _ _ _,fun h1=>by have:=h.ltOwn h1;omega⟩)
 have TO1:=Lib.hid (show Ints w1 (.slice ta tl tc) tol∧Stays (OwnC (CT C tb) mb (.slice (some ⟨bb,0,none⟩) nb nb) m) w1 (.slice ta tl tc) from⟨hto.1.keep hs1,hto.2.mono (by
  rintro q (hq|hq|hq)
  ·exact .inl (.inl hq)
  ·exact .inl (.inr hq)
  ·exact .inr (by omega)) hs1.size⟩)
 have HTB:=Lib.hid (show w.heap.size≤tb from by omega)
 have HB:=Lib.hid hb
 have HTR:=Lib.hid htr
 have HTL:=Lib.hid htl
 have HNB:=Lib.hid hnb
 rw[←hm1]at H1 SM1 TB1 TO1
 have MV1:=Lib.hid (show Mv mb _ w m w1 m1 0 0 0 from by rw[hm1];exact MV1.out)
 have HB:=Lib.hid (show b<m.bks.length from HB.out)
 have nx1:0≤m1.next:=H1.out.next0
 subst htn
 clear h hs hb hto htr hc1 hm1
 go_enter Tryz.func63,Tryz.ntmps63
 go_wp2_with fail
 rw[←htb,←hw1]
 clear hw1 hz1 hs1 htb
 refine (mk_some H1.out (SM1.out.mono (by decide)) b (by rw[MV1.out.len];exact HB.out)).mono ?_
 rintro e w2 ⟨m2,⟨v,rfl,hv0,hv1⟩,h2,mv2⟩
 have H2:=Lib.hid h2
 have MV2:=Lib.hid (MV1.out.trans mv2)
 have SM2:=Lib.hid (SM1.out.mv mv2 (by decide) (by decide) (by decide))
 have nx2:=mv2.next.1
 have TB2:=Lib.hid (mv2.carry TB1.out)
 have TO2:=Lib.hid (show Ints _ _ _∧Stays _ _ _ from⟨mv2.nums TO1.out.1 TO1.out.2,mv2.stays TO1.out.2⟩)
 clear h2 mv2
 go_wp2_with fail
 refine (mk_take H2.out 2 (by decide) (by have:=SM2.out.1;omega)).mono ?_
 rintro e w3 ⟨m3,⟨z,rfl,⟨hz0,hz1⟩,hm3⟩,h3,mv3⟩
 have H3:=Lib.hid h3
 have MV3:=Lib.hid (MV2.out.trans mv3)
 have SM3:=Lib.hid (SM2.out.mv mv3 (by decide) (by decide) (by decide))
 have nx3:m2.next≤m3.next:=by rw[hm3];exact Int.le_refl _
 clear hm3
 have TB3:=Lib.hid (mv3.carry TB2.out)
 have TO3:=Lib.hid (show Ints _ _ _∧Stays _ _ _ from⟨mv3.nums TO2.out.1 TO2.out.2,mv3.stays TO2.out.2⟩)
 clear h3 mv3
 by_cases hz0:z=0
 ·subst hz0
  go_wp2_with fail
  have hob:=(Since.refl w3).alloc (.cells #[.int .i64 11,.int .i64 12,.int .i64 13] 46)
  have TOX:=Lib.hid (show Ints _ _ _∧Stays _ _ _ from⟨TO3.out.1.keep hob,TO3.out.2.keep hob⟩)
  clear hob
  obtain⟨w4,hw4⟩:∃ x,x=w3.alloc (.cells #[.int .i64 11,.int .i64 12,.int .i64 13] 46):=⟨_,rfl⟩
  rw[←hw4]
  have hs4:Since w3 w4:=by rw[hw4];exact (Since.refl _).alloc _
  obtain⟨m4,hm4⟩:∃ x,x=m3:=⟨_,rfl⟩
  have H4:=Lib.hid (H3.out.keep hs4)
  have MV4:=Lib.hid (MV3.out.keep hs4)
  have SM4:=SM3
  have OB4:=Lib.hid (show HeapIs w4 w3.heap.size #[.int .i64 11,.int .i64 12,.int .i64 13] 46∧¬ Own mb _ m3 w3.heap.size from⟨by rw[hw4];exact HeapIs.new _ _ _,fun h1=>absurd (H3.out.ltOwn h1) (Nat.lt_irrefl _)⟩)
  have TB4:=Lib.hid (carry_keep TB3.out hs4)
  rw[←hw4]at TOX
  rw[←hm4]at H4 MV4 SM4 OB4 TOX TB4
  have nx4:m3.next≤m4.next:=by rw[hm4];exact Int.le_refl _
  clear hw4 hs4 hm4
  have TO4:=TOX
  refine (mk_some H4.out (SM4.out.mono (by decide)) b (by rw[MV4.out.len];exact HB.out)).mono ?_
  rintro e w5 ⟨m5,⟨y,rfl,hy0,hy1⟩,h5,mv5⟩
  have H5:=Lib.hid h5
  have MV5:=Lib.hid (MV4.out.trans mv5)
  have SM5:=Lib.hid (SM4.out.mv mv5 (by decide) (by decide) (by decide))
  have nx5:=mv5.next.1
  have TB5:=Lib.hid (mv5.carry TB4.out)
  have OB5:=Lib.hid (mv5.carry OB4.out)
  have TO5:=Lib.hid (show Ints _ _ _∧Stays _ _ _ from⟨mv5.nums TO4.out.1 TO4.out.2,mv5.stays TO4.out.2⟩)
  clear h5 mv5
  go_wp2_with fail
  refine (mk_fresh H5.out ⟨by omega,by have:=SM5.out.2.1;omega⟩).mono ?_
  rintro e w6 ⟨m6,⟨rfl,hm6⟩,h6,mv6⟩
  have H6:=Lib.hid h6
  have MV6:=Lib.hid (MV5.out.trans mv6)
  have SM6:=Lib.hid (SM5.out.mv mv6 (by decide) (by decide) (by decide))
  have nx6:m5.next+1≤m6.next:=by rw[hm6];exact Int.le_refl _
  clear hm6
  have TB6:=Lib.hid (mv6.carry TB5.out)
  have OB6:=Lib.hid (mv6.carry OB5.out)
  have TO6:=Lib.hid (show Ints _ _ _∧Stays _ _ _ from⟨mv6.nums TO5.out.1 TO5.out.2,mv6.stays TO5.out.2⟩)
  clear h6 mv6
  go_wp2_with fail
  refine (mk_take H6.out 3 (by decide) (by have:=SM6.out.1;omega)).mono ?_
  rintro e w7 ⟨m7,⟨o3,rfl,⟨ho30,ho31⟩,hm7⟩,h7,mv7⟩
  have H7:=Lib.hid h7
  have MV7:=Lib.hid (MV6.out.trans mv7)
  have SM7:=Lib.hid (SM6.out.mv mv7 (by decide) (by decide) (by decide))
  have nx7:m6.next≤m7.next:=by rw[hm7];exact Int.le_refl _
  clear hm7
  have TB7:=Lib.hid (mv7.carry TB6.out)
  have OB7:=Lib.hid (mv7.carry OB6.out)
  have TO7:=Lib.hid (show Ints _ _ _∧Stays _ _ _ from⟨mv7.nums TO6.out.1 TO6.out.2,mv7.stays TO6.out.2⟩)
  clear h7 mv7
  obtain⟨on,rfl⟩:∃ n:Nat,o3=n:=⟨o3.toNat,by omega⟩
  obtain⟨ov,ho,ho1,ho2⟩:∃ ov,([11,12,13]:List Int)[on]? = some ov∧2≤ov∧ov≤14:=by
   have h9:on=0∨on=1∨on=2:=by omega
   rcases h9 with rfl|rfl|rfl
   ·exact⟨11,rfl,by decide,by decide⟩
   ·exact⟨12,rfl,by decide,by decide⟩
   ·exact⟨13,rfl,by decide,by decide⟩
  have hoc:w7.cell? ⟨w3.heap.size,on,none⟩=some (.int .i64 ov):=(OB7.out.1.cell on).trans (by show (([11,12,13]:List Int).map (Value.int .i64)).toArray[on]? = _;rw[List.getElem?_toArray,List.getElem?_map,ho];rfl)
  have hol:=OB7.out.1.lt
  clear ho
  go_wp2_with fail
  have AD7:=Lib.hid (show Ints _ _ _∧Stays _ _ _ from H7.out.newInts [v,y] #[.int .i64 (v),.int .i64 (y)] rfl 2 rfl (by show 2≤maxLen;decide) 3)
  refine (Calls.since_mk ((Since.refl _).alloc _) (mk_add (H7.out.keep ((Since.refl _).alloc _)) (SM7.out.mono (by decide)) b (by rw[MV7.out.len];exact HB.out) ⟨ov,m5.next,0,[v,y],_,0⟩ AD7.out (good_two ⟨ho1,ho2⟩ ⟨by omega,by omega⟩ ⟨by omega,by omega⟩ ⟨by omega,by omega⟩))).mono ?_
  rintro e w8 ⟨m8,⟨rfl,hm8⟩,h8,mv8⟩
  have H8:=Lib.hid h8
  have MV8:=Lib.hid (MV7.out.trans mv8)
  have SM8:=Lib.hid (SM7.out.mv mv8 (by decide) (by decide) (by decide))
  have nx8:m7.next≤m8.next:=by rw[hm8];exact Int.le_refl _
  clear hm8
  have TB8:=Lib.hid (mv8.carry TB7.out)
  have OB8:=Lib.hid (mv8.carry OB7.out)
  have TO8:=Lib.hid (show Ints _ _ _∧Stays _ _ _ from⟨mv8.nums TO7.out.1 TO7.out.2,mv8.stays TO7.out.2⟩)
  clear h8 mv8
  clear hoc hol
  have kl8:=TB8.out.1.lt
  have kf8:=TB8.out.1.frozen
  have kc8_0:w8.cell? ⟨tb,0,none⟩=some (.int .i64 2):=TB8.out.1.cell 0
  have kc8_1:w8.cell? ⟨tb,1,none⟩=some (.slice none 0 0):=TB8.out.1.cell 1
  have kc8_2:w8.cell? ⟨tb,2,none⟩=some (.slice ta 2 tc):=TB8.out.1.cell 2
  have kc8_3:w8.cell? ⟨tb,3,none⟩=some (.int .i32 0):=TB8.out.1.cell 3
  go_wp2_with fail
  obtain⟨wi,hwi⟩:∃ x,x=(w8.setCell ⟨tb,1,none⟩ (.slice (some ⟨w8.heap.size,0,none⟩) 1 1)):=⟨_,rfl⟩
  have hsi:wi.heap.size=w8.heap.size:=by rw[hwi];exact setCell_size _ _ _
  have hti:Turn (fun q=>q=tb) w8 wi:=by rw[hwi];exact ((Turn.refl (fun q=>q=tb) w8).setCell (p:=⟨tb,1,none⟩) rfl (.slice (some ⟨w8.heap.size,0,none⟩) 1 1))
  have Hi:=H8.out.besides hti (fun q _ e=>.inr e)
  obtain⟨w9,hw9⟩:∃ x,x=wi.alloc (.cells #[.int .i64 m5.next] 3):=⟨_,rfl⟩
  rw[←hwi,←hw9]
  have t9:Turn (fun q=>q=tb) w8 w9:=by rw[hw9];exact hti.alloc _
  obtain⟨m9,hm9⟩:∃ x,x=m8:=⟨_,rfl⟩
  have H9:=Lib.hid (H8.out.besides t9 (fun q _ e=>.inr e))
  have MV9:=Lib.hid (MV8.out.beside t9 (fun q hq e=>by have h9:q=tb:=e;have:=HTB.out;omega))
  have SM9:=SM8
  have TB9:=Lib.hid (show HeapIs w9 tb #[.int .i64 2,.slice (some ⟨w8.heap.size,0,none⟩) 1 1,.slice ta 2 tc,.int .i32 0] 54∧¬ Own mb (.slice (some ⟨bb,0,none⟩) nb nb) m8 tb from⟨(by rw[hw9];refine HeapIs.keep ?_ ((Since.refl _).alloc _);rw[hwi];exact (TB8.out.1.set 1 (.slice (some ⟨w8.heap.size,0,none⟩) 1 1))),TB8.out.2⟩)
  have TO9:=Lib.hid (show Ints _ _ _∧Stays (OwnC (CT C tb) mb (.slice (some ⟨bb,0,none⟩) nb nb) m8) _ _ from⟨TO8.out.1.turn t9 fun q hq e=>(TO8.out.2 q hq).1 (.inr (.inr e)),TO8.out.2.mono (fun _ h=>.inl h) t9.size⟩)
  have h9:=Hi.newInts [m5.next] #[.int .i64 m5.next] rfl 1 rfl (by show 1≤maxLen;decide) 3
  rw[hsi,←hw9]at h9
  have AR9:=Lib.hid h9
  clear h9
  rw[←hm9]at H9 MV9 SM9 TB9 TO9 AR9
  have nx9:m8.next≤m9.next:=by rw[hm9];exact Int.le_refl _
  clear hw9 hm9 t9 hwi hsi hti Hi kf8 kl8 kc8_0 kc8_1 kc8_2 kc8_3
  obtain⟨kb,hkb⟩:∃ k,m9.bks[b]? = some k:=⟨_,List.getElem?_eq_getElem (by rw[MV9.out.len];exact HB.out)⟩
  have KB:=Lib.hid hkb
  clear hkb
  refine wp_region_since_tail 9 rfl (by decide +kernel) (by decide +kernel) (by decide +kernel) (by decide)
   [Is (.pointer (some ⟨mb,0,none⟩)),Is (.pointer (some ⟨mb,0,none⟩)),Is (.pointer (some ⟨mb,2,none⟩)),Is (.pointer (some ⟨mb,3,none⟩)),Is (.slice (some ⟨bb,0,none⟩) nb nb),Is (.int .i64 b),Is (.agg #[.int .i64 2,.slice (some ⟨w8.heap.size,0,none⟩) 1 1,.slice ta 2 tc,.int .i32 0]),Is (.pointer (some ⟨bb,b*6,none⟩)),Is (.pointer (some ⟨bb,b*6+2,none⟩))]
   (by repeat (first | exact trivial | refine⟨Is.stable _,?_⟩)) ⟨?_,?_,?_,?_,?_,?_,?_,?_,?_,trivial⟩ ?_
  rotate_right
  ·intro vs w30 hs hk
   simp only[List.take,List.drop,putAll,Act.put,KnowsAll,nthF,Is,List.setIfInBounds_toArray,List.set_cons_zero,List.set_cons_succ,Nat.reduceAdd]at hk ⊢
   try simp only[hk]
   have hthere:=heap_there (o:=b*6+2) (n:=4) ((H9.out.bbAt (bb:=bb) rfl).keep hs) (by rw[List.size_toArray,flat_len fbcells 6 fbcells_len,MV9.out.len];have:=HB.out;omega)
   have HS:=Lib.hid hs
   clear hs hk
   refine wpList_store_mid rfl 54 _ _ rfl bb (b*6+2) #[.int .i64 2,.slice (some ⟨w8.heap.size,0,none⟩) 1 1,.slice ta 2 tc,.int .i32 0] rfl rfl hthere (by kernel_rfl) (by first | rfl | (simp[Value.oneCell'])) ?_
   clear hthere
   have HF:=Lib.hid (end_fin (tol:=tol) (t:=⟨2,[m5.next],.slice (some ⟨w8.heap.size,0,none⟩) 1 1,tol,.slice ta 2 tc,0⟩) H9.out MV9.out (by decide) (by decide) (by decide) HS.out KB.out rfl ⟨⟨AR9.out.1,TO9.out.1⟩,AR9.out.2,TO9.out.2⟩ rfl ⟨(by show (-2147483648:Int)≤0∧(0:Int)≤2147483647;decide),(fun y hy=>by obtain rfl:=List.mem_singleton.1 hy;constructor<;>omega),HTR.out,.inr (.inl ⟨rfl,rfl,HTL.out⟩)⟩)
   go_wp2
   go_end0
   exact HF.out
  all_goals
   intro vs w30 hs hk _
   simp only[List.take,putAll,Act.put,Knows,nthF,Is,List.setIfInBounds_toArray,List.set_cons_zero,List.set_cons_succ,Nat.reduceAdd]at hk ⊢
   try simp only[hk]
  ·go_wp2
   exact⟨_,rfl,rfl,Since.refl _⟩
  ·go_wp2
   exact⟨_,rfl,rfl,Since.refl _⟩
  ·go_wp2
   exact⟨_,rfl,rfl,Since.refl _⟩
  ·go_wp2
   exact⟨_,rfl,rfl,Since.refl _⟩
  ·have hmd:=HeapIs.keep (show HeapIs w9 mb _ _ from H9.out.made) hs
   have hc:w30.cell? ⟨mb,3,none⟩=some (.slice (some ⟨bb,0,none⟩) nb nb):=hmd.cell 3
   have hl:=hmd.lt
   clear hmd
   go_wp2
   exact⟨_,rfl,rfl,Since.refl _⟩
  ·go_wp2
   exact⟨_,rfl,rfl,Since.refl _⟩
  ·have hbx:=TB9.out.1.keep hs
   clear hk
   refine wpList_load_row rfl _ _ rfl tb rfl 54 _ (0,0) _ hbx Tryz.underlying54 rfl (by kernel_rfl) ?_
   go_wp2
   exact⟨_,rfl,rfl,Since.refl _⟩
  ·have hbl:b<nb:=by rw[←HNB.out];exact HB.out
   have hnl:nb≤512:=by rw[←HNB.out,←MV9.out.len];exact H9.out.few
   go_wp2
   exact⟨_,rfl,rfl,Since.refl _⟩
  ·go_wp2
   exact⟨_,rfl,rfl,Since.refl _⟩
 ·have hzq:(z==0)=false:=by simpa using hz0
  clear hz0
  have kl3:=TB3.out.1.lt
  have kf3:=TB3.out.1.frozen
  have kc3_0:w3.cell? ⟨tb,0,none⟩=some (.int .i64 2):=TB3.out.1.cell 0
  have kc3_1:w3.cell? ⟨tb,1,none⟩=some (.slice none 0 0):=TB3.out.1.cell 1
  have kc3_2:w3.cell? ⟨tb,2,none⟩=some (.slice ta 2 tc):=TB3.out.1.cell 2
  have kc3_3:w3.cell? ⟨tb,3,none⟩=some (.int .i32 0):=TB3.out.1.cell 3
  go_wp2_with fail
  obtain⟨wi,hwi⟩:∃ x,x=(w3.setCell ⟨tb,1,none⟩ (.slice (some ⟨w3.heap.size,0,none⟩) 1 1)):=⟨_,rfl⟩
  have hsi:wi.heap.size=w3.heap.size:=by rw[hwi];exact setCell_size _ _ _
  have hti:Turn (fun q=>q=tb) w3 wi:=by rw[hwi];exact ((Turn.refl (fun q=>q=tb) w3).setCell (p:=⟨tb,1,none⟩) rfl (.slice (some ⟨w3.heap.size,0,none⟩) 1 1))
  have Hi:=H3.out.besides hti (fun q _ e=>.inr e)
  obtain⟨w4,hw4⟩:∃ x,x=wi.alloc (.cells #[.int .i64 v] 3):=⟨_,rfl⟩
  rw[←hwi,←hw4]
  have t4:Turn (fun q=>q=tb) w3 w4:=by rw[hw4];exact hti.alloc _
  obtain⟨m4,hm4⟩:∃ x,x=m3:=⟨_,rfl⟩
  have H4:=Lib.hid (H3.out.besides t4 (fun q _ e=>.inr e))
  have MV4:=Lib.hid (MV3.out.beside t4 (fun q hq e=>by have h9:q=tb:=e;have:=HTB.out;omega))
  have SM4:=SM3
  have TB4:=Lib.hid (show HeapIs w4 tb #[.int .i64 2,.slice (some ⟨w3.heap.size,0,none⟩) 1 1,.slice ta 2 tc,.int .i32 0] 54∧¬ Own mb (.slice (some ⟨bb,0,none⟩) nb nb) m3 tb from⟨(by rw[hw4];refine HeapIs.keep ?_ ((Since.refl _).alloc _);rw[hwi];exact (TB3.out.1.set 1 (.slice (some ⟨w3.heap.size,0,none⟩) 1 1))),TB3.out.2⟩)
  have TO4:=Lib.hid (show Ints _ _ _∧Stays (OwnC (CT C tb) mb (.slice (some ⟨bb,0,none⟩) nb nb) m3) _ _ from⟨TO3.out.1.turn t4 fun q hq e=>(TO3.out.2 q hq).1 (.inr (.inr e)),TO3.out.2.mono (fun _ h=>.inl h) t4.size⟩)
  have h9:=Hi.newInts [v] #[.int .i64 v] rfl 1 rfl (by show 1≤maxLen;decide) 3
  rw[hsi,←hw4]at h9
  have AR4:=Lib.hid h9
  clear h9
  rw[←hm4]at H4 MV4 SM4 TB4 TO4 AR4
  have nx4:m3.next≤m4.next:=by rw[hm4];exact Int.le_refl _
  clear hw4 hm4 t4 hwi hsi hti Hi kf3 kl3 kc3_0 kc3_1 kc3_2 kc3_3
  obtain⟨kb,hkb⟩:∃ k,m4.bks[b]? = some k:=⟨_,List.getElem?_eq_getElem (by rw[MV4.out.len];exact HB.out)⟩
  have KB:=Lib.hid hkb
  clear hkb
  refine wp_region_since_tail 9 rfl (by decide +kernel) (by decide +kernel) (by decide +kernel) (by decide)
   [Is (.pointer (some ⟨mb,0,none⟩)),Is (.pointer (some ⟨mb,0,none⟩)),Is (.pointer (some ⟨mb,2,none⟩)),Is (.pointer (some ⟨mb,3,none⟩)),Is (.slice (some ⟨bb,0,none⟩) nb nb),Is (.int .i64 b),Is (.agg #[.int .i64 2,.slice (some ⟨w3.heap.size,0,none⟩) 1 1,.slice ta 2 tc,.int .i32 0]),Is (.pointer (some ⟨bb,b*6,none⟩)),Is (.pointer (some ⟨bb,b*6+2,none⟩))]
   (by repeat (first | exact trivial | refine⟨Is.stable _,?_⟩)) ⟨?_,?_,?_,?_,?_,?_,?_,?_,?_,trivial⟩ ?_
  rotate_right
  ·intro vs w30 hs hk
   simp only[List.take,List.drop,putAll,Act.put,KnowsAll,nthF,Is,List.setIfInBounds_toArray,List.set_cons_zero,List.set_cons_succ,Nat.reduceAdd]at hk ⊢
   try simp only[hk]
   have hthere:=heap_there (o:=b*6+2) (n:=4) ((H4.out.bbAt (bb:=bb) rfl).keep hs) (by rw[List.size_toArray,flat_len fbcells 6 fbcells_len,MV4.out.len];have:=HB.out;omega)
   have HS:=Lib.hid hs
   clear hs hk
   refine wpList_store_mid rfl 54 _ _ rfl bb (b*6+2) #[.int .i64 2,.slice (some ⟨w3.heap.size,0,none⟩) 1 1,.slice ta 2 tc,.int .i32 0] rfl rfl hthere (by kernel_rfl) (by first | rfl | (simp[Value.oneCell'])) ?_
   clear hthere
   have HF:=Lib.hid (end_fin (tol:=tol) (t:=⟨2,[v],.slice (some ⟨w3.heap.size,0,none⟩) 1 1,tol,.slice ta 2 tc,0⟩) H4.out MV4.out (by decide) (by decide) (by decide) HS.out KB.out rfl ⟨⟨AR4.out.1,TO4.out.1⟩,AR4.out.2,TO4.out.2⟩ rfl ⟨(by show (-2147483648:Int)≤0∧(0:Int)≤2147483647;decide),(fun y hy=>by obtain rfl:=List.mem_singleton.1 hy;constructor<;>omega),HTR.out,.inr (.inl ⟨rfl,rfl,HTL.out⟩)⟩)
   go_wp2
   go_end0
   exact HF.out
  all_goals
   intro vs w30 hs hk _
   simp only[List.take,putAll,Act.put,Knows,nthF,Is,List.setIfInBounds_toArray,List.set_cons_zero,List.set_cons_succ,Nat.reduceAdd]at hk ⊢
   try simp only[hk]
  ·go_wp2
   exact⟨_,rfl,rfl,Since.refl _⟩
  ·go_wp2
   exact⟨_,rfl,rfl,Since.refl _⟩
  ·go_wp2
   exact⟨_,rfl,rfl,Since.refl _⟩
  ·go_wp2
   exact⟨_,rfl,rfl,Since.refl _⟩
  ·have hmd:=HeapIs.keep (show HeapIs w4 mb _ _ from H4.out.made) hs
   have hc:w30.cell? ⟨mb,3,none⟩=some (.slice (some ⟨bb,0,none⟩) nb nb):=hmd.cell 3
   have hl:=hmd.lt
   clear hmd
   go_wp2
   exact⟨_,rfl,rfl,Since.refl _⟩
  ·go_wp2
   exact⟨_,rfl,rfl,Since.refl _⟩
  ·have hbx:=TB4.out.1.keep hs
   clear hk
   refine wpList_load_row rfl _ _ rfl tb rfl 54 _ (0,0) _ hbx Tryz.underlying54 rfl (by kernel_rfl) ?_
   go_wp2
   exact⟨_,rfl,rfl,Since.refl _⟩
  ·have hbl:b<nb:=by rw[←HNB.out];exact HB.out
   have hnl:nb≤512:=by rw[←HNB.out,←MV4.out.len];exact H4.out.few
   go_wp2
   exact⟨_,rfl,rfl,Since.refl _⟩
  ·go_wp2
   exact⟨_,rfl,rfl,Since.refl _⟩
set_option maxHeartbeats 2000000 in
set_option maxRecDepth 100000 in
theorem mk_end_more (h:MkOk C mb bv sv l m w) (hs:Sm 10 m) (b:Nat) (hb:b<m.bks.length) (tov:Value) (tol:List Int) (hto:Ints w tov tol∧Stays (OwnC C mb bv m) w tov) (htr:∀ x∈tol,1≤x∧x<(m.bks.length:Int)) (htn:3≤tol.length∧tol.length≤65) :
  Calls Tryz.prog 63 #[.pointer (some ⟨mb,0,none⟩),.int .i64 b,tov] w (EndQ C mb bv sv l w m b tol):=by
 obtain⟨nb,hnb⟩:∃ n,m.bks.length=n:=⟨_,rfl⟩
 obtain⟨bb,hbv⟩:∃ bb,bv=.slice (some ⟨bb,0,none⟩) nb nb:=by
  rcases h.bks with ⟨_,h2⟩|⟨bb,h1,_⟩
  ·rw[h2]at hb;simp at hb
  ·exact⟨bb,by rw[←hnb];exact h1⟩
 subst hbv
 obtain⟨ta,tc,htv⟩:=nums_lenI hto.1
 obtain⟨tl,htl⟩:∃ n,tol.length=n:=⟨_,rfl⟩
 rw[htl]at htv htn
 subst htv
 obtain⟨tb,htb⟩:∃ q,q=w.heap.size:=⟨_,rfl⟩
 obtain⟨w1,hw1⟩:∃ x,x=w.alloc (.cells #[.int .i64 3,.slice none 0 0,.slice ta tl tc,.int .i32 0] 54):=⟨_,rfl⟩
 have hs1:Since w w1:=by rw[hw1];exact (Since.refl _).alloc _
 have hz1:w1.heap.size=w.heap.size+1:=by rw[hw1];simp
 obtain⟨m1,hm1⟩:∃ x,x=m:=⟨_,rfl⟩
 have hc1:∀ q,CT C tb q→(C q∨w.heap.size≤q)∧q<w1.heap.size:=by
  rintro q (hq|hq)
  ·exact⟨.inl hq,by have:=(h.aside q hq).1;omega⟩
  ·exact⟨.inr (by omega),by omega⟩
 have H1:=Lib.hid (h.swapC (Turn.since (S:=fun _=>False) hs1) (fun q _ e=>e.elim) hc1)
 have MV1:=Lib.hid ((Mv.refl mb (.slice (some ⟨bb,0,none⟩) nb nb) w m).keep hs1)
 have SM1:=Lib.hid hs
 have TB1:=Lib.hid (show HeapIs w1 tb #[.int .i64 3,.slice none 0 0,.slice ta tl tc,.int .i32 0] 54∧¬ Own mb (.slice (some ⟨bb,0,none⟩) nb nb) m tb from⟨by rw[hw1,htb];exact HeapIs.new _ _ _,fun h1=>by have:=h.ltOwn h1;omega⟩)
 have TO1:=Lib.hid (show Ints w1 (.slice ta tl tc) tol∧Stays (OwnC (CT C tb) mb (.slice (some ⟨bb,0,none⟩) nb nb) m) w1 (.slice ta tl tc) from⟨hto.1.keep hs1,hto.2.mono (by
  rintro q (hq|hq|hq)
  ·exact .inl (.inl hq)
  ·exact .inl (.inr hq)
  ·exact .inr (by omega)) hs1.size⟩)
 have HTB:=Lib.hid (show w.heap.size≤tb from by omega)
 have HB:=Lib.hid hb
 have HTR:=Lib.hid htr
 have HTL:=Lib.hid htl
 have HNB:=Lib.hid hnb
 rw[←hm1]at H1 SM1 TB1 TO1
 have MV1:=Lib.hid (show Mv mb _ w m w1 m1 0 0 0 from by rw[hm1];exact MV1.out)
 have HB:=Lib.hid (show b<m.bks.length from HB.out)
 have nx1:0≤m1.next:=H1.out.next0
 have hq0:((tl:Int)==0)=false:=by simp;omega
 have hq1:((tl:Int)==1)=false:=by simp;omega
 have hq2:((tl:Int)==2)=false:=by simp;omega
 clear h hs hb hto htr hc1 hm1
 go_enter Tryz.func63,Tryz.ntmps63
 go_wp2_with fail
 rw[←htb,←hw1]
 clear hw1 hz1 hs1 htb
 refine (mk_some H1.out (SM1.out.mono (by decide)) b (by rw[MV1.out.len];exact HB.out)).mono ?_
 rintro e w2 ⟨m2,⟨v,rfl,hv0,hv1⟩,h2,mv2⟩
 have H2:=Lib.hid h2
 have MV2:=Lib.hid (MV1.out.trans mv2)
 have SM2:=Lib.hid (SM1.out.mv mv2 (by decide) (by decide) (by decide))
 have nx2:=mv2.next.1
 have TB2:=Lib.hid (mv2.carry TB1.out)
 have TO2:=Lib.hid (show Ints _ _ _∧Stays _ _ _ from⟨mv2.nums TO1.out.1 TO1.out.2,mv2.stays TO1.out.2⟩)
 clear h2 mv2
 go_wp2_with fail
 refine (mk_constant H2.out (SM2.out.mono (by decide)) b (by rw[MV2.out.len];exact HB.out) (7) (by unfold In32;decide)).mono ?_
 rintro e w3 ⟨m3,⟨s7,rfl,hs70,hs71⟩,h3,mv3⟩
 have H3:=Lib.hid h3
 have MV3:=Lib.hid (MV2.out.trans mv3)
 have SM3:=Lib.hid (SM2.out.mv mv3 (by decide) (by decide) (by decide))
 have nx3:=mv3.next.1
 have TB3:=Lib.hid (mv3.carry TB2.out)
 have TO3:=Lib.hid (show Ints _ _ _∧Stays _ _ _ from⟨mv3.nums TO2.out.1 TO2.out.2,mv3.stays TO2.out.2⟩)
 clear h3 mv3
 go_wp2_with fail
 refine (mk_fresh H3.out ⟨by omega,by have:=SM3.out.2.1;omega⟩).mono ?_
 rintro e w4 ⟨m4,⟨rfl,hm4⟩,h4,mv4⟩
 have H4:=Lib.hid h4
 have MV4:=Lib.hid (MV3.out.trans mv4)
 have SM4:=Lib.hid (SM3.out.mv mv4 (by decide) (by decide) (by decide))
 have nx4:m3.next+1≤m4.next:=by rw[hm4];exact Int.le_refl _
 clear hm4
 have TB4:=Lib.hid (mv4.carry TB3.out)
 have TO4:=Lib.hid (show Ints _ _ _∧Stays _ _ _ from⟨mv4.nums TO3.out.1 TO3.out.2,mv4.stays TO3.out.2⟩)
 clear h4 mv4
 go_wp2_with fail
 have AD4:=Lib.hid (show Ints _ _ _∧Stays _ _ _ from H4.out.newInts [v,s7] #[.int .i64 (v),.int .i64 (s7)] rfl 2 rfl (by show 2≤maxLen;decide) 3)
 refine (Calls.since_mk ((Since.refl _).alloc _) (mk_add (H4.out.keep ((Since.refl _).alloc _)) (SM4.out.mono (by decide)) b (by rw[MV4.out.len];exact HB.out) ⟨5,m3.next,0,[v,s7],_,0⟩ AD4.out (good_two (by decide) ⟨by omega,by omega⟩ ⟨by omega,by omega⟩ ⟨by omega,by omega⟩))).mono ?_
 rintro e w5 ⟨m5,⟨rfl,hm5⟩,h5,mv5⟩
 have H5:=Lib.hid h5
 have MV5:=Lib.hid (MV4.out.trans mv5)
 have SM5:=Lib.hid (SM4.out.mv mv5 (by decide) (by decide) (by decide))
 have nx5:m4.next≤m5.next:=by rw[hm5];exact Int.le_refl _
 clear hm5
 have TB5:=Lib.hid (mv5.carry TB4.out)
 have TO5:=Lib.hid (show Ints _ _ _∧Stays _ _ _ from⟨mv5.nums TO4.out.1 TO4.out.2,mv5.stays TO4.out.2⟩)
 clear h5 mv5
 have kl5:=TB5.out.1.lt
 have kf5:=TB5.out.1.frozen
 have kc5_0:w5.cell? ⟨tb,0,none⟩=some (.int .i64 3):=TB5.out.1.cell 0
 have kc5_1:w5.cell? ⟨tb,1,none⟩=some (.slice none 0 0):=TB5.out.1.cell 1
 have kc5_2:w5.cell? ⟨tb,2,none⟩=some (.slice ta tl tc):=TB5.out.1.cell 2
 have kc5_3:w5.cell? ⟨tb,3,none⟩=some (.int .i32 0):=TB5.out.1.cell 3
 go_wp2_with fail
 obtain⟨wi,hwi⟩:∃ x,x=(w5.setCell ⟨tb,1,none⟩ (.slice (some ⟨w5.heap.size,0,none⟩) 1 1)):=⟨_,rfl⟩
 have hsi:wi.heap.size=w5.heap.size:=by rw[hwi];exact setCell_size _ _ _
 have hti:Turn (fun q=>q=tb) w5 wi:=by rw[hwi];exact ((Turn.refl (fun q=>q=tb) w5).setCell (p:=⟨tb,1,none⟩) rfl (.slice (some ⟨w5.heap.size,0,none⟩) 1 1))
 have Hi:=H5.out.besides hti (fun q _ e=>.inr e)
 obtain⟨w6,hw6⟩:∃ x,x=wi.alloc (.cells #[.int .i64 m3.next] 3):=⟨_,rfl⟩
 rw[←hwi,←hw6]
 have t6:Turn (fun q=>q=tb) w5 w6:=by rw[hw6];exact hti.alloc _
 obtain⟨m6,hm6⟩:∃ x,x=m5:=⟨_,rfl⟩
 have H6:=Lib.hid (H5.out.besides t6 (fun q _ e=>.inr e))
 have MV6:=Lib.hid (MV5.out.beside t6 (fun q hq e=>by have h9:q=tb:=e;have:=HTB.out;omega))
 have SM6:=SM5
 have TB6:=Lib.hid (show HeapIs w6 tb #[.int .i64 3,.slice (some ⟨w5.heap.size,0,none⟩) 1 1,.slice ta tl tc,.int .i32 0] 54∧¬ Own mb (.slice (some ⟨bb,0,none⟩) nb nb) m5 tb from⟨(by rw[hw6];refine HeapIs.keep ?_ ((Since.refl _).alloc _);rw[hwi];exact (TB5.out.1.set 1 (.slice (some ⟨w5.heap.size,0,none⟩) 1 1))),TB5.out.2⟩)
 have TO6:=Lib.hid (show Ints _ _ _∧Stays (OwnC (CT C tb) mb (.slice (some ⟨bb,0,none⟩) nb nb) m5) _ _ from⟨TO5.out.1.turn t6 fun q hq e=>(TO5.out.2 q hq).1 (.inr (.inr e)),TO5.out.2.mono (fun _ h=>.inl h) t6.size⟩)
 have h9:=Hi.newInts [m3.next] #[.int .i64 m3.next] rfl 1 rfl (by show 1≤maxLen;decide) 3
 rw[hsi,←hw6]at h9
 have AR6:=Lib.hid h9
 clear h9
 rw[←hm6]at H6 MV6 SM6 TB6 TO6 AR6
 have nx6:m5.next≤m6.next:=by rw[hm6];exact Int.le_refl _
 clear hw6 hm6 t6 hwi hsi hti Hi kf5 kl5 kc5_0 kc5_1 kc5_2 kc5_3
 obtain⟨kb,hkb⟩:∃ k,m6.bks[b]? = some k:=⟨_,List.getElem?_eq_getElem (by rw[MV6.out.len];exact HB.out)⟩
 have KB:=Lib.hid hkb
 clear hkb
 refine wp_region_since_tail 9 rfl (by decide +kernel) (by decide +kernel) (by decide +kernel) (by decide)
  [Is (.pointer (some ⟨mb,0,none⟩)),Is (.pointer (some ⟨mb,0,none⟩)),Is (.pointer (some ⟨mb,2,none⟩)),Is (.pointer (some ⟨mb,3,none⟩)),Is (.slice (some ⟨bb,0,none⟩) nb nb),Is (.int .i64 b),Is (.agg #[.int .i64 3,.slice (some ⟨w5.heap.size,0,none⟩) 1 1,.slice ta tl tc,.int .i32 0]),Is (.pointer (some ⟨bb,b*6,none⟩)),Is (.pointer (some ⟨bb,b*6+2,none⟩))]
  (by repeat (first | exact trivial | refine⟨Is.stable _,?_⟩)) ⟨?_,?_,?_,?_,?_,?_,?_,?_,?_,trivial⟩ ?_
 rotate_right
 ·intro vs w30 hs hk
  simp only[List.take,List.drop,putAll,Act.put,KnowsAll,nthF,Is,List.setIfInBounds_toArray,List.set_cons_zero,List.set_cons_succ,Nat.reduceAdd]at hk ⊢
  try simp only[hk]
  have hthere:=heap_there (o:=b*6+2) (n:=4) ((H6.out.bbAt (bb:=bb) rfl).keep hs) (by rw[List.size_toArray,flat_len fbcells 6 fbcells_len,MV6.out.len];have:=HB.out;omega)
  have HS:=Lib.hid hs
  clear hs hk
  refine wpList_store_mid rfl 54 _ _ rfl bb (b*6+2) #[.int .i64 3,.slice (some ⟨w5.heap.size,0,none⟩) 1 1,.slice ta tl tc,.int .i32 0] rfl rfl hthere (by kernel_rfl) (by first | rfl | (simp[Value.oneCell'])) ?_
  clear hthere
  have HF:=Lib.hid (end_fin (tol:=tol) (t:=⟨3,[m3.next],.slice (some ⟨w5.heap.size,0,none⟩) 1 1,tol,.slice ta tl tc,0⟩) H6.out MV6.out (by decide) (by decide) (by decide) HS.out KB.out rfl ⟨⟨AR6.out.1,TO6.out.1⟩,AR6.out.2,TO6.out.2⟩ rfl ⟨(by show (-2147483648:Int)≤0∧(0:Int)≤2147483647;decide),(fun y hy=>by obtain rfl:=List.mem_singleton.1 hy;constructor<;>omega),HTR.out,.inr (.inr (.inl ⟨rfl,rfl,(by rw[HTL.out];omega),(by rw[HTL.out];omega)⟩))⟩)
  go_wp2
  go_end0
  exact HF.out
 all_goals
  intro vs w30 hs hk _
  simp only[List.take,putAll,Act.put,Knows,nthF,Is,List.setIfInBounds_toArray,List.set_cons_zero,List.set_cons_succ,Nat.reduceAdd]at hk ⊢
  try simp only[hk]
 ·go_wp2
  exact⟨_,rfl,rfl,Since.refl _⟩
 ·go_wp2
  exact⟨_,rfl,rfl,Since.refl _⟩
 ·go_wp2
  exact⟨_,rfl,rfl,Since.refl _⟩
 ·go_wp2
  exact⟨_,rfl,rfl,Since.refl _⟩
 ·have hmd:=HeapIs.keep (show HeapIs w6 mb _ _ from H6.out.made) hs
  have hc:w30.cell? ⟨mb,3,none⟩=some (.slice (some ⟨bb,0,none⟩) nb nb):=hmd.cell 3
  have hl:=hmd.lt
  clear hmd
  go_wp2
  exact⟨_,rfl,rfl,Since.refl _⟩
 ·go_wp2
  exact⟨_,rfl,rfl,Since.refl _⟩
 ·have hbx:=TB6.out.1.keep hs
  clear hk
  refine wpList_load_row rfl _ _ rfl tb rfl 54 _ (0,0) _ hbx Tryz.underlying54 rfl (by kernel_rfl) ?_
  go_wp2
  exact⟨_,rfl,rfl,Since.refl _⟩
 ·have hbl:b<nb:=by rw[←HNB.out];exact HB.out
  have hnl:nb≤512:=by rw[←HNB.out,←MV6.out.len];exact H6.out.few
  go_wp2
  exact⟨_,rfl,rfl,Since.refl _⟩
 ·go_wp2
  exact⟨_,rfl,rfl,Since.refl _⟩
theorem mk_end (h:MkOk C mb bv sv l m w) (hs:Sm 10 m) (b:Nat) (hb:b<m.bks.length) (tov:Value) (tol:List Int) (hto:Ints w tov tol∧Stays (OwnC C mb bv m) w tov) (htr:∀ x∈tol,1≤x∧x<(m.bks.length:Int)) (htn:tol.length≤65) :
  Calls Tryz.prog 63 #[.pointer (some ⟨mb,0,none⟩),.int .i64 b,tov] w (EndQ C mb bv sv l w m b tol):=by
 by_cases h0:tol.length=0
 ·exact mk_end_none h hs b hb tov tol hto htr h0
 by_cases h1:tol.length=1
 ·exact mk_end_one h hs b hb tov tol hto htr h1
 by_cases h2:tol.length=2
 ·exact mk_end_two h hs b hb tov tol hto htr h2
 ·exact mk_end_more h hs b hb tov tol hto htr ⟨by omega,htn⟩
end
end Go.Proofs.YtmhojfpidedjeaaGreatDoor
