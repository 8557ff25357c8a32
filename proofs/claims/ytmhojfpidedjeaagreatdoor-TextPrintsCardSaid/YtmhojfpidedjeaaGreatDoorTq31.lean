/- MkInstr MkTerm -/
import Derived.Test.YtmhojfpidedjeaaGreatDoorTq30
import Derived.Deep.MidRow
namespace Go.Proofs.YtmhojfpidedjeaaGreatDoor
open Go.RowKit
set_option linter.unusedVariables false
def opsV:List Int:=[2,2,3,4,5,6,7,8,9,10,12,11]
theorem ops_at (k:Nat) (h:k<12):∃ o,opsV[k]? = some o∧2≤o∧o≤14:=by
 have h1:∀ k:Nat,k<12→(match opsV[k]? with | some o=>decide (2≤o∧o≤14) | none=>false)=true:=by decide
 have h2:=h1 k h
 cases hk:opsV[k]? with
 | none=>rw[hk]at h2;cases h2
 | some o=>rw[hk]at h2;exact⟨o,rfl,of_decide_eq_true h2⟩
section
variable {C : Nat→Prop} {mb:Nat} {bv sv:Value} {l : List Int} {m m':MkSt} {w w':World}
theorem Mv.carry {a n i q:Nat} {cs:Array Value} {T : TypeId} (h:Mv mb bv w m w' m' a n i) (hq:HeapIs w q cs T∧¬ Own mb bv m q):HeapIs w' q cs T∧¬ Own mb bv m' q:=
 ⟨h.heap hq.1 hq.2,fun e=>by
  rcases h.new q e with h1|h1
  ·exact hq.2 h1
  ·have:=hq.1.lt;omega⟩
theorem carry_keep {q : Nat} {cs:Array Value} {T : TypeId} (hq:HeapIs w q cs T∧¬ Own mb bv m q) (s:Since w w'):HeapIs w' q cs T∧¬ Own mb bv m q:=⟨hq.1.keep s,hq.2⟩
def CV (C:Nat→Prop) (v:Value) (q:Nat):Prop:=C q∨v.ownBlock=some q
structure CallL (C:Nat→Prop) (mb:Nat) (bv sv:Value) (l:List Int) (w:World) (m0:MkSt) (base t:Nat) (v:Value) (xs:List Int) (mt:MkSt) (wr:World):Prop where
 ok:MkOk (CV C v) mb bv sv l mt wr
 mv:Mv mb bv w m0 wr mt (2+5*t) t t
 own:wr.ownsRow base 3 1 v xs.length (xs.map (Value.int .i64))
 len:xs.length=t
 inr:∀ y∈xs,0≤y∧y<mt.next
 base:base≤wr.heap.size
theorem Mv.beside {T : Nat→Prop} {w'':World} {a n i:Nat} (h:Mv mb bv w m w' m' a n i) (t:Turn T w' w'') (hT:∀ q,q<w.heap.size→¬ T q):Mv mb bv w m w'' m' a n i:=by
 have hz:=h.turn.size
 have h1:Turn (fun q=>Own mb bv m q∨T q) w w':=h.turn.mono fun _ _ h=>.inl h
 have h2:Turn (fun q=>Own mb bv m q∨T q) w' w'':=t.mono fun q _ hq=>.inr hq
 refine⟨(h1.trans h2).mono fun q hq hs=>?_,h.new,h.at_,h.next,h.total,h.live,h.same⟩
 rcases hs with hs|hs
 ·exact hs
 ·exact absurd hs (hT q hq)
theorem one_nums (w:World) (y:Int) (T:TypeId):Ints (w.alloc (.cells #[.int .i64 y] T)) (.slice (some ⟨w.heap.size,0,none⟩) 1 1) [y]:=
 nums_new [y] _ 1 (Nat.le_refl _) (by show 1≤maxLen;decide) (heap_last _ _) fun j n hj=>by
  match j,hj with
  | 0,hj=>simpa using hj
theorem CallL.next {base t:Nat} {v v':Value} {xs:List Int} {mt ma:MkSt} {wr wa w6:World} {m0:MkSt} {y : Int} {o : Obj} (h:CallL C mb bv sv l w m0 base t v xs mt wr) (ha:MkOk (CV C v) mb bv sv l ma wa) (mva:Mv mb bv wr mt wa ma 5 1 1) (hy:0≤y∧y<ma.next) (hcb:∀ q,C q→q<base) (hwb:w.heap.size≤base)
  (hown:w6.ownsRow base 3 1 v' (xs++[y]).length ((xs++[y]).map (Value.int .i64))) (t6:Turn (fun q=>v.ownBlock=some q) (wa.alloc o) w6) (hnew:NewOr (wa.alloc o) v v'):CallL C mb bv sv l w m0 base (t+1) v' (xs++[y]) ma w6:=by
 have hz:=t6.size
 have hz2:wa.heap.size≤(wa.alloc o).heap.size:=by simp
 refine⟨(ha.keep ((Since.refl _).alloc o)).swapC t6 (fun q _ hq=>.inr hq) ?_,?_,hown,by rw[List.length_append,h.len];rfl,fun z hz=>?_,by have:=h.base;have:=mva.turn.size;omega⟩
 ·rintro q (hq|hq)
  ·exact⟨.inl (.inl hq),by have:=(ha.aside q (.inl hq)).1;omega⟩
  ·refine⟨?_,own_some_lt hown hq⟩
   rcases hnew q hq with h1|h1
   ·exact .inl (.inr h1)
   ·exact .inr h1
 ·refine (((h.mv.trans mva).keep ((Since.refl _).alloc o)).beside t6 fun q hq e=>?_).more (by omega) (by omega) (by omega)
  have:=(World.ownsRow.lt h.own q e).1
  omega
 ·rcases List.mem_append.1 hz with hz|hz
  ·have:=h.inr z hz
   have:=mva.next
   omega
  ·obtain rfl:=List.mem_singleton.1 hz
   exact hy
structure FrPh (C:Nat→Prop) (mb:Nat) (bv sv:Value) (l:List Int) (w0:World) (m:MkSt) (ob:Nat) (cs:Array Value) (T:TypeId) (p:Nat) (w:World):Prop where
 one:p=0→MkOk C mb bv sv l m w∧Since w0 w
 two:p≠0→MkOk C mb bv sv l { m with next:=m.next+1 } w∧Mv mb bv w0 m w { m with next:=m.next+1 } 0 1 0
 box:HeapIs w ob cs T
 lt:∀ q,OwnC C mb bv m q→q<w.heap.size
theorem FrPh.keep {w0 w1 w2:World} {ob p:Nat} {cs:Array Value} {T : TypeId} (h:FrPh C mb bv sv l w0 m ob cs T p w1) (s:Since w1 w2):FrPh C mb bv sv l w0 m ob cs T p w2:=
 ⟨fun e=>⟨(h.one e).1.keep s,(h.one e).2.trans s⟩,fun e=>⟨(h.two e).1.keep s,(h.two e).2.keep s⟩,h.box.keep s,fun q hq=>Nat.lt_of_lt_of_le (h.lt q hq) s.size⟩
def TwoI (S:Nat→Prop) (a b:Int) (v:Value) (w:World):Prop:=∃ q,v=.slice (some ⟨q,0,none⟩) 2 2∧HeapIs w q #[.int .i64 a,.int .i64 b] 3∧¬ S q
theorem TwoI.stable (S:Nat→Prop) (a b:Int):Stable (TwoI S a b):=fun v w w' ⟨q,h1,h2,h3⟩ s=>⟨q,h1,h2.keep s,h3⟩
theorem TwoI.stableT {S T:Nat→Prop} (a b:Int) (h:∀ q,T q→S q):StableT T (TwoI S a b):=fun v w w' ⟨q,h1,h2,h3⟩ t=>⟨q,h1,h2.turn t (fun e=>h3 (h q e)),h3⟩
def InsI (S:Nat→Prop) (op d a b:Int) (v:Value) (w:World):Prop:=∃ q,v=.agg #[.int .i64 op,.int .i64 d,.int .i64 0,.slice (some ⟨q,0,none⟩) 2 2,.int .i32 0]∧HeapIs w q #[.int .i64 a,.int .i64 b] 3∧¬ S q
theorem InsI.stable (S:Nat→Prop) (op d a b:Int):Stable (InsI S op d a b):=fun v w w' ⟨q,h1,h2,h3⟩ s=>⟨q,h1,h2.keep s,h3⟩
theorem InsI.stableT {S T:Nat→Prop} (op d a b:Int) (h:∀ q,T q→S q):StableT T (InsI S op d a b):=fun v w w' ⟨q,h1,h2,h3⟩ t=>⟨q,h1,h2.turn t (fun e=>h3 (h q e)),h3⟩
theorem two_ints {q : Nat} {a b:Int} (h:HeapIs w q #[.int .i64 a,.int .i64 b] 3) (hS:¬ OwnC C mb bv m q):Ints w (.slice (some ⟨q,0,none⟩) 2 2) [a,b]∧Stays (OwnC C mb bv m) w (.slice (some ⟨q,0,none⟩) 2 2):=
 ⟨nums_new [a,b] _ 2 (Nat.le_refl _) (by show 2≤maxLen;decide) h fun j n hj=>by
  match j,hj with
  | 0,hj=>simpa using hj
  | 1,hj=>simpa using hj,fun q2 hq=>by cases hq;exact⟨hS,h.lt⟩⟩
set_option maxHeartbeats 2000000 in
set_option maxRecDepth 100000 in
theorem mk_instruction (h:MkOk C mb bv sv l m w) (hs:Sm 10 m) (b:Nat) (hb:b<m.bks.length) :
  Calls Tryz.prog 62 #[.pointer (some ⟨mb,0,none⟩),.int .i64 b] w (MkQ C mb bv sv l w m 30 6 7 UnitQ):=by
 obtain⟨m0,hm0⟩:∃ x,x=m:=⟨_,rfl⟩
 subst hm0
 have H0:=Lib.hid h
 have MV0:=Lib.hid (Mv.refl mb bv w m0)
 have SM0:=Lib.hid hs
 have HB:=Lib.hid hb
 have nx0:=h.next0
 clear h hs
 have hb2:=hb
 go_enter Tryz.func62,Tryz.ntmps62
 go_wp2_with fail
 refine (mk_take H0.out 20 (by decide) (by have:=SM0.out.1;omega)).mono ?_
 rintro e w1 ⟨m1,⟨k,rfl,⟨hk0,hk1⟩,hm1⟩,h1,mv1⟩
 have H1:=Lib.hid h1
 have MV1:=Lib.hid (MV0.out.trans mv1)
 have SM1:=Lib.hid (SM0.out.mv mv1 (by decide) (by decide) (by decide))
 have nx1:m0.next≤m1.next:=by rw[hm1];exact Int.le_refl _
 clear hm1
 clear h1 mv1
 have key:k<12∨k=12∨k=13∨k=14∨k=15∨k=16∨k=17∨18≤k:=by omega
 rcases key with hk|rfl|rfl|rfl|rfl|rfl|rfl|hk
 ·obtain⟨kn,rfl⟩:∃ kn:Nat,k=kn:=⟨k.toNat,by omega⟩
  obtain⟨o,ho,ho1,ho2⟩:=ops_at kn (by omega)
  have HO:=Lib.hid ho
  clear ho
  go_wp2_with fail
  obtain⟨w2,hw2⟩:∃ x,x=w1.alloc (.cells #[.int .i64 2,.int .i64 2,.int .i64 3,.int .i64 4,.int .i64 5,.int .i64 6,.int .i64 7,.int .i64 8,.int .i64 9,.int .i64 10,.int .i64 12,.int .i64 11] 152):=⟨_,rfl⟩
  rw[←hw2]
  have hs2:Since w1 w2:=by rw[hw2];exact (Since.refl _).alloc _
  obtain⟨m2,hm2⟩:∃ x,x=m1:=⟨_,rfl⟩
  have H2:=Lib.hid (H1.out.keep hs2)
  have MV2:=Lib.hid (MV1.out.keep hs2)
  have SM2:=SM1
  have OB2:=Lib.hid (show HeapIs w2 w1.heap.size #[.int .i64 2,.int .i64 2,.int .i64 3,.int .i64 4,.int .i64 5,.int .i64 6,.int .i64 7,.int .i64 8,.int .i64 9,.int .i64 10,.int .i64 12,.int .i64 11] 152∧¬ Own mb bv m1 w1.heap.size from⟨by rw[hw2];exact HeapIs.new _ _ _,fun h1=>absurd (H1.out.ltOwn h1) (Nat.lt_irrefl _)⟩)
  rw[←hm2]at H2 MV2 SM2 OB2
  have nx2:m1.next≤m2.next:=by rw[hm2];exact Int.le_refl _
  clear hw2 hs2 hm2
  refine (mk_some H2.out (SM2.out.mono (by decide)) b (by rw[MV2.out.len];exact HB.out)).mono ?_
  rintro e w3 ⟨m3,⟨a,rfl,ha0,ha1⟩,h3,mv3⟩
  have H3:=Lib.hid h3
  have MV3:=Lib.hid (MV2.out.trans mv3)
  have SM3:=Lib.hid (SM2.out.mv mv3 (by decide) (by decide) (by decide))
  have nx3:=mv3.next.1
  have OB3:=Lib.hid (mv3.carry OB2.out)
  clear h3 mv3
  go_wp2_with fail
  refine (mk_some H3.out (SM3.out.mono (by decide)) b (by rw[MV3.out.len];exact HB.out)).mono ?_
  rintro e w4 ⟨m4,⟨c,rfl,hc0,hc1⟩,h4,mv4⟩
  have H4:=Lib.hid h4
  have MV4:=Lib.hid (MV3.out.trans mv4)
  have SM4:=Lib.hid (SM3.out.mv mv4 (by decide) (by decide) (by decide))
  have nx4:=mv4.next.1
  have OB4:=Lib.hid (mv4.carry OB3.out)
  clear h4 mv4
  go_wp2_with fail
  refine (mk_take H4.out 3 (by decide) (by have:=SM4.out.1;omega)).mono ?_
  rintro e w5 ⟨m5,⟨q,rfl,⟨hq0,hq1⟩,hm5⟩,h5,mv5⟩
  have H5:=Lib.hid h5
  have MV5:=Lib.hid (MV4.out.trans mv5)
  have SM5:=Lib.hid (SM4.out.mv mv5 (by decide) (by decide) (by decide))
  have nx5:m4.next≤m5.next:=by rw[hm5];exact Int.le_refl _
  clear hm5
  have OB5:=Lib.hid (mv5.carry OB4.out)
  clear h5 mv5
  by_cases hq0:q=0
  ·subst hq0
   go_wp2_with fail
   refine (mk_take H5.out 40 (by decide) (by have:=SM5.out.1;omega)).mono ?_
   rintro e w6 ⟨m6,⟨t,rfl,⟨ht0,ht1⟩,hm6⟩,h6,mv6⟩
   have H6:=Lib.hid h6
   have MV6:=Lib.hid (MV5.out.trans mv6)
   have SM6:=Lib.hid (SM5.out.mv mv6 (by decide) (by decide) (by decide))
   have nx6:m5.next≤m6.next:=by rw[hm6];exact Int.le_refl _
   clear hm6
   have OB6:=Lib.hid (mv6.carry OB5.out)
   clear h6 mv6
   go_wp2_with fail
   refine (mk_constant H6.out (SM6.out.mono (by decide)) b (by rw[MV6.out.len];exact HB.out) (t-8) (by unfold In32;omega)).mono ?_
   rintro e w7 ⟨m7,⟨d,rfl,hd0,hd1⟩,h7,mv7⟩
   have H7:=Lib.hid h7
   have MV7:=Lib.hid (MV6.out.trans mv7)
   have SM7:=Lib.hid (SM6.out.mv mv7 (by decide) (by decide) (by decide))
   have nx7:=mv7.next.1
   have OB7:=Lib.hid (mv7.carry OB6.out)
   clear h7 mv7
   go_wp2_with fail
   have HPH0:=Lib.hid (show FrPh C mb bv sv l w7 m7 w1.heap.size #[.int .i64 2,.int .i64 2,.int .i64 3,.int .i64 4,.int .i64 5,.int .i64 6,.int .i64 7,.int .i64 8,.int .i64 9,.int .i64 10,.int .i64 12,.int .i64 11] 152 0 w7.drew from⟨fun _=>⟨H7.out.keep (Since.refl _).drew,(Since.refl _).drew⟩,fun e=>absurd rfl e,OB7.out.1.keep (Since.refl _).drew,fun q hq=>H7.out.ltOwnC hq⟩)
   refine wp_region_one 11 6 [6] [0,0,0,0,0,0,0,0,0,0,1] [1,1,1,1,1,0,0,1,1,1,1] [0,0,0,0,0,0,1,0,0,0,0] (fun q=>q=mb) (FrPh C mb bv sv l w7 m7 w1.heap.size #[.int .i64 2,.int .i64 2,.int .i64 3,.int .i64 4,.int .i64 5,.int .i64 6,.int .i64 7,.int .i64 8,.int .i64 9,.int .i64 10,.int .i64 12,.int .i64 11] 152) rfl (by decide +kernel) (by decide +kernel) (by decide +kernel) (by decide) (by decide +kernel)
    [Is (.pointer (some ⟨mb,0,none⟩)),Is (.int .i64 b),Is (.int .i64 kn),Is (.pointer (some ⟨w1.heap.size,kn,none⟩)),Is (.int .i64 o),Is (.pointer (some ⟨mb,0,none⟩)),Is (.int .i64 m7.next),Is (.int .i64 a),Is (.int .i64 d),TwoI (OwnC C mb bv m7) a d,InsI (OwnC C mb bv m7) o m7.next a d]
    (by repeat (first | exact trivial | refine⟨fun h=>absurd rfl h,?_⟩ | refine⟨fun _=>Is.stableT _ _,?_⟩ | refine⟨fun _=>Any.stableT _,?_⟩ | refine⟨fun _=>TwoI.stableT _ _ (fun q e=>.inl (.inl e)),?_⟩ | refine⟨fun _=>InsI.stableT _ _ _ _ (fun q e=>.inl (.inl e)),?_⟩)) (by repeat (first | exact trivial | refine⟨Is.stable _,?_⟩ | refine⟨Any.stable,?_⟩ | refine⟨TwoI.stable _ _ _,?_⟩ | refine⟨InsI.stable _ _ _ _ _,?_⟩)) HPH0.out ⟨?_,?_,?_,?_,?_,?_,?_,?_,?_,?_,?_,trivial⟩ ?_
   rotate_right
   ·intro vs w20 ht hph hk
    simp only[List.take,List.drop,putAll,Act.put,KnowsAll,nthF,Is,List.setIfInBounds_toArray,List.set_cons_zero,List.set_cons_succ,Nat.reduceAdd]at hk ⊢
    try simp only[hk]
    obtain⟨q9,hq1,hq2,hq3⟩:InsI (OwnC C mb bv m7) o m7.next a d (vs 10) w20:=hk.2.2.2.2.2.2.2.2.2.2.1
    simp only[hq1]
    have HQ:=Lib.hid (And.intro hq2 hq3)
    have HPH:=Lib.hid (hph.two (by decide))
    clear hk hph ht hq1 hq2 hq3
    go_wp2_with fail
    refine (mk_add HPH.out.1 ((SM7.out.mv HPH.out.2 (by decide) (by decide) (by decide)).mono (by decide)) b (by rw[HPH.out.2.len,MV7.out.len];exact HB.out) ⟨o,m7.next,0,[a,d],_,0⟩ (two_ints (m:={ m7 with next:=m7.next+1 }) HQ.out.1 HQ.out.2) (good_two ⟨ho1,ho2⟩ ⟨by omega,by show a<m7.next+1;omega⟩ ⟨by omega,by show d<m7.next+1;omega⟩ ⟨by omega,by show m7.next<m7.next+1;omega⟩)).mono ?_
    rintro e w22 ⟨m22,⟨rfl,hm22⟩,h22,mv22⟩
    have H22:=Lib.hid h22
    have MV22:=Lib.hid (MV7.out.trans (HPH.out.2.trans mv22))
    clear h22 mv22 hm22
    go_wp2
    go_end0
    exact⟨_,rfl,H22.out,MV22.out.more (by decide) (by decide) (by decide)⟩
   all_goals
    intro p vs w20 hlo hhi ht hph hk
    simp only[List.take,putAll,Act.put,Knows,nthF,Is,List.setIfInBounds_toArray,List.set_cons_zero,List.set_cons_succ,Nat.reduceAdd]at hk ⊢
    try simp only[hk]
   ·go_wp2
    exact⟨_,rfl,rfl,Since.refl _,hph⟩
   ·go_wp2
    exact⟨_,rfl,rfl,Since.refl _,hph⟩
   ·go_wp2
    exact⟨_,rfl,rfl,Since.refl _,hph⟩
   ·go_wp2
    exact⟨_,rfl,rfl,Since.refl _,hph⟩
   ·have hc:w20.cell? ⟨w1.heap.size,kn,none⟩=some (.int .i64 o):=(hph.box.cell kn).trans (by show (opsV.map (Value.int .i64)).toArray[kn]? = _;rw[List.getElem?_toArray,List.getElem?_map,HO.out];rfl)
    have hl:=hph.box.lt
    go_wp2
    exact⟨_,rfl,rfl,Since.refl _,hph⟩
   ·go_wp2
    exact⟨_,rfl,rfl,Since.refl _,hph⟩
   ·obtain rfl:p=0:=by omega
    have HPH:=Lib.hid hph
    clear hk hph
    go_wp2_with fail
    refine (mk_fresh0 (HPH.out.one rfl).1 ⟨by omega,by have:=SM7.out.2.1;omega⟩).mono ?_
    rintro e w21 ⟨rfl,h21,mv21,t21⟩
    have HP:=Lib.hid (show FrPh C mb bv sv l w7 m7 w1.heap.size #[.int .i64 2,.int .i64 2,.int .i64 3,.int .i64 4,.int .i64 5,.int .i64 6,.int .i64 7,.int .i64 8,.int .i64 9,.int .i64 10,.int .i64 12,.int .i64 11] 152 1 w21 from⟨fun e=>absurd e (by decide),fun _=>⟨h21,Mv.since (HPH.out.one rfl).2 mv21⟩,mv21.heap HPH.out.box OB7.out.2,fun q hq=>Nat.lt_of_lt_of_le (HPH.out.lt q hq) mv21.turn.size⟩)
    have HT:=Lib.hid t21
    clear h21 mv21 t21
    go_wp2
    exact⟨_,rfl,rfl,HT.out,HP.out⟩
   ·go_wp2
    exact⟨_,rfl,rfl,Since.refl _,hph⟩
   ·go_wp2
    exact⟨_,rfl,rfl,Since.refl _,hph⟩
   ·have hne:¬ (OwnC C mb bv m7) w20.heap.size:=fun e=>absurd (hph.lt _ e) (Nat.lt_irrefl _)
    have hs2:=(Since.refl w20).alloc (.cells #[.int .i64 a,.int .i64 d] 3)
    have HP:=Lib.hid (hph.keep hs2)
    clear hk hph
    go_wp2
    exact⟨_,rfl,⟨_,rfl,HeapIs.new _ _ _,hne⟩,hs2,HP.out⟩
   ·obtain⟨q9,hq1,hq2,hq3⟩:TwoI (OwnC C mb bv m7) a d (vs 9) w20:=hk.2.2.1
    simp only[hq1]
    have HQ:=Lib.hid hq2
    clear hk hq1 hq2
    go_wp2
    exact⟨_,rfl,⟨_,rfl,HQ.out,hq3⟩,Since.refl _,hph⟩
  ·have hr0:(q==0)=false:=by simpa using hq0
   clear hq0
   go_wp2_with fail
   have HPH0:=Lib.hid (show FrPh C mb bv sv l w5 m5 w1.heap.size #[.int .i64 2,.int .i64 2,.int .i64 3,.int .i64 4,.int .i64 5,.int .i64 6,.int .i64 7,.int .i64 8,.int .i64 9,.int .i64 10,.int .i64 12,.int .i64 11] 152 0 w5.drew from⟨fun _=>⟨H5.out.keep (Since.refl _).drew,(Since.refl _).drew⟩,fun e=>absurd rfl e,OB5.out.1.keep (Since.refl _).drew,fun q hq=>H5.out.ltOwnC hq⟩)
   refine wp_region_one 11 6 [6] [0,0,0,0,0,0,0,0,0,0,1] [1,1,1,1,1,0,0,1,1,1,1] [0,0,0,0,0,0,1,0,0,0,0] (fun q=>q=mb) (FrPh C mb bv sv l w5 m5 w1.heap.size #[.int .i64 2,.int .i64 2,.int .i64 3,.int .i64 4,.int .i64 5,.int .i64 6,.int .i64 7,.int .i64 8,.int .i64 9,.int .i64 10,.int .i64 12,.int .i64 11] 152) rfl (by decide +kernel) (by decide +kernel) (by decide +kernel) (by decide) (by decide +kernel)
    [Is (.pointer (some ⟨mb,0,none⟩)),Is (.int .i64 b),Is (.int .i64 kn),Is (.pointer (some ⟨w1.heap.size,kn,none⟩)),Is (.int .i64 o),Is (.pointer (some ⟨mb,0,none⟩)),Is (.int .i64 m5.next),Is (.int .i64 a),Is (.int .i64 c),TwoI (OwnC C mb bv m5) a c,InsI (OwnC C mb bv m5) o m5.next a c]
    (by repeat (first | exact trivial | refine⟨fun h=>absurd rfl h,?_⟩ | refine⟨fun _=>Is.stableT _ _,?_⟩ | refine⟨fun _=>Any.stableT _,?_⟩ | refine⟨fun _=>TwoI.stableT _ _ (fun q e=>.inl (.inl e)),?_⟩ | refine⟨fun _=>InsI.stableT _ _ _ _ (fun q e=>.inl (.inl e)),?_⟩)) (by repeat (first | exact trivial | refine⟨Is.stable _,?_⟩ | refine⟨Any.stable,?_⟩ | refine⟨TwoI.stable _ _ _,?_⟩ | refine⟨InsI.stable _ _ _ _ _,?_⟩)) HPH0.out ⟨?_,?_,?_,?_,?_,?_,?_,?_,?_,?_,?_,trivial⟩ ?_
   rotate_right
   ·intro vs w20 ht hph hk
    simp only[List.take,List.drop,putAll,Act.put,KnowsAll,nthF,Is,List.setIfInBounds_toArray,List.set_cons_zero,List.set_cons_succ,Nat.reduceAdd]at hk ⊢
    try simp only[hk]
    obtain⟨q9,hq1,hq2,hq3⟩:InsI (OwnC C mb bv m5) o m5.next a c (vs 10) w20:=hk.2.2.2.2.2.2.2.2.2.2.1
    simp only[hq1]
    have HQ:=Lib.hid (And.intro hq2 hq3)
    have HPH:=Lib.hid (hph.two (by decide))
    clear hk hph ht hq1 hq2 hq3
    go_wp2_with fail
    refine (mk_add HPH.out.1 ((SM5.out.mv HPH.out.2 (by decide) (by decide) (by decide)).mono (by decide)) b (by rw[HPH.out.2.len,MV5.out.len];exact HB.out) ⟨o,m5.next,0,[a,c],_,0⟩ (two_ints (m:={ m5 with next:=m5.next+1 }) HQ.out.1 HQ.out.2) (good_two ⟨ho1,ho2⟩ ⟨by omega,by show a<m5.next+1;omega⟩ ⟨by omega,by show c<m5.next+1;omega⟩ ⟨by omega,by show m5.next<m5.next+1;omega⟩)).mono ?_
    rintro e w22 ⟨m22,⟨rfl,hm22⟩,h22,mv22⟩
    have H22:=Lib.hid h22
    have MV22:=Lib.hid (MV5.out.trans (HPH.out.2.trans mv22))
    clear h22 mv22 hm22
    go_wp2
    go_end0
    exact⟨_,rfl,H22.out,MV22.out.more (by decide) (by decide) (by decide)⟩
   all_goals
    intro p vs w20 hlo hhi ht hph hk
    simp only[List.take,putAll,Act.put,Knows,nthF,Is,List.setIfInBounds_toArray,List.set_cons_zero,List.set_cons_succ,Nat.reduceAdd]at hk ⊢
    try simp only[hk]
   ·go_wp2
    exact⟨_,rfl,rfl,Since.refl _,hph⟩
   ·go_wp2
    exact⟨_,rfl,rfl,Since.refl _,hph⟩
   ·go_wp2
    exact⟨_,rfl,rfl,Since.refl _,hph⟩
   ·go_wp2
    exact⟨_,rfl,rfl,Since.refl _,hph⟩
   ·have hc:w20.cell? ⟨w1.heap.size,kn,none⟩=some (.int .i64 o):=(hph.box.cell kn).trans (by show (opsV.map (Value.int .i64)).toArray[kn]? = _;rw[List.getElem?_toArray,List.getElem?_map,HO.out];rfl)
    have hl:=hph.box.lt
    go_wp2
    exact⟨_,rfl,rfl,Since.refl _,hph⟩
   ·go_wp2
    exact⟨_,rfl,rfl,Since.refl _,hph⟩
   ·obtain rfl:p=0:=by omega
    have HPH:=Lib.hid hph
    clear hk hph
    go_wp2_with fail
    refine (mk_fresh0 (HPH.out.one rfl).1 ⟨by omega,by have:=SM5.out.2.1;omega⟩).mono ?_
    rintro e w21 ⟨rfl,h21,mv21,t21⟩
    have HP:=Lib.hid (show FrPh C mb bv sv l w5 m5 w1.heap.size #[.int .i64 2,.int .i64 2,.int .i64 3,.int .i64 4,.int .i64 5,.int .i64 6,.int .i64 7,.int .i64 8,.int .i64 9,.int .i64 10,.int .i64 12,.int .i64 11] 152 1 w21 from⟨fun e=>absurd e (by decide),fun _=>⟨h21,Mv.since (HPH.out.one rfl).2 mv21⟩,mv21.heap HPH.out.box OB5.out.2,fun q hq=>Nat.lt_of_lt_of_le (HPH.out.lt q hq) mv21.turn.size⟩)
    have HT:=Lib.hid t21
    clear h21 mv21 t21
    go_wp2
    exact⟨_,rfl,rfl,HT.out,HP.out⟩
   ·go_wp2
    exact⟨_,rfl,rfl,Since.refl _,hph⟩
   ·go_wp2
    exact⟨_,rfl,rfl,Since.refl _,hph⟩
   ·have hne:¬ (OwnC C mb bv m5) w20.heap.size:=fun e=>absurd (hph.lt _ e) (Nat.lt_irrefl _)
    have hs2:=(Since.refl w20).alloc (.cells #[.int .i64 a,.int .i64 c] 3)
    have HP:=Lib.hid (hph.keep hs2)
    clear hk hph
    go_wp2
    exact⟨_,rfl,⟨_,rfl,HeapIs.new _ _ _,hne⟩,hs2,HP.out⟩
   ·obtain⟨q9,hq1,hq2,hq3⟩:TwoI (OwnC C mb bv m5) a c (vs 9) w20:=hk.2.2.1
    simp only[hq1]
    have HQ:=Lib.hid hq2
    clear hk hq1 hq2
    go_wp2
    exact⟨_,rfl,⟨_,rfl,HQ.out,hq3⟩,Since.refl _,hph⟩
 ·go_wp2_with fail
  refine (mk_some H1.out (SM1.out.mono (by decide)) b (by rw[MV1.out.len];exact HB.out)).mono ?_
  rintro e w2 ⟨m2,⟨a,rfl,ha0,ha1⟩,h2,mv2⟩
  have H2:=Lib.hid h2
  have MV2:=Lib.hid (MV1.out.trans mv2)
  have SM2:=Lib.hid (SM1.out.mv mv2 (by decide) (by decide) (by decide))
  have nx2:=mv2.next.1
  clear h2 mv2
  go_wp2_with fail
  refine (mk_some H2.out (SM2.out.mono (by decide)) b (by rw[MV2.out.len];exact HB.out)).mono ?_
  rintro e w3 ⟨m3,⟨c,rfl,hc0,hc1⟩,h3,mv3⟩
  have H3:=Lib.hid h3
  have MV3:=Lib.hid (MV2.out.trans mv3)
  have SM3:=Lib.hid (SM2.out.mv mv3 (by decide) (by decide) (by decide))
  have nx3:=mv3.next.1
  clear h3 mv3
  go_wp2_with fail
  refine (mk_fresh H3.out ⟨by omega,by have:=SM3.out.2.1;omega⟩).mono ?_
  rintro e w4 ⟨m4,⟨rfl,hm4⟩,h4,mv4⟩
  have H4:=Lib.hid h4
  have MV4:=Lib.hid (MV3.out.trans mv4)
  have SM4:=Lib.hid (SM3.out.mv mv4 (by decide) (by decide) (by decide))
  have nx4:m3.next+1≤m4.next:=by rw[hm4];exact Int.le_refl _
  clear hm4
  clear h4 mv4
  go_wp2_with fail
  have AD4:=Lib.hid (show Ints _ _ _∧Stays _ _ _ from H4.out.newInts [a,c] #[.int .i64 (a),.int .i64 (c)] rfl 2 rfl (by show 2≤maxLen;decide) 3)
  refine (Calls.since_mk ((Since.refl _).alloc _) (mk_add (H4.out.keep ((Since.refl _).alloc _)) (SM4.out.mono (by decide)) b (by rw[MV4.out.len];exact HB.out) ⟨13,m3.next,0,[a,c],_,0⟩ AD4.out (good_two (by decide) ⟨by omega,by omega⟩ ⟨by omega,by omega⟩ ⟨by omega,by omega⟩))).mono ?_
  rintro e w5 ⟨m5,⟨rfl,hm5⟩,h5,mv5⟩
  have H5:=Lib.hid h5
  have MV5:=Lib.hid (MV4.out.trans mv5)
  have SM5:=Lib.hid (SM4.out.mv mv5 (by decide) (by decide) (by decide))
  have nx5:m4.next≤m5.next:=by rw[hm5];exact Int.le_refl _
  clear hm5
  clear h5 mv5
  go_wp2_with fail
  go_end0
  refine⟨_,?_,H5.out,MV5.out.more (by decide) (by decide) (by decide)⟩
  exact rfl
 ·go_wp2_with fail
  refine (mk_some H1.out (SM1.out.mono (by decide)) b (by rw[MV1.out.len];exact HB.out)).mono ?_
  rintro e w2 ⟨m2,⟨a,rfl,ha0,ha1⟩,h2,mv2⟩
  have H2:=Lib.hid h2
  have MV2:=Lib.hid (MV1.out.trans mv2)
  have SM2:=Lib.hid (SM1.out.mv mv2 (by decide) (by decide) (by decide))
  have nx2:=mv2.next.1
  clear h2 mv2
  go_wp2_with fail
  refine (mk_take H2.out 12 (by decide) (by have:=SM2.out.1;omega)).mono ?_
  rintro e w3 ⟨m3,⟨t,rfl,⟨ht0,ht1⟩,hm3⟩,h3,mv3⟩
  have H3:=Lib.hid h3
  have MV3:=Lib.hid (MV2.out.trans mv3)
  have SM3:=Lib.hid (SM2.out.mv mv3 (by decide) (by decide) (by decide))
  have nx3:m2.next≤m3.next:=by rw[hm3];exact Int.le_refl _
  clear hm3
  clear h3 mv3
  go_wp2_with fail
  refine (mk_constant H3.out (SM3.out.mono (by decide)) b (by rw[MV3.out.len];exact HB.out) (t) (by unfold In32;omega)).mono ?_
  rintro e w4 ⟨m4,⟨c,rfl,hc0,hc1⟩,h4,mv4⟩
  have H4:=Lib.hid h4
  have MV4:=Lib.hid (MV3.out.trans mv4)
  have SM4:=Lib.hid (SM3.out.mv mv4 (by decide) (by decide) (by decide))
  have nx4:=mv4.next.1
  clear h4 mv4
  go_wp2_with fail
  refine (mk_take H4.out 3 (by decide) (by have:=SM4.out.1;omega)).mono ?_
  rintro e w5 ⟨m5,⟨q,rfl,⟨hq0,hq1⟩,hm5⟩,h5,mv5⟩
  have H5:=Lib.hid h5
  have MV5:=Lib.hid (MV4.out.trans mv5)
  have SM5:=Lib.hid (SM4.out.mv mv5 (by decide) (by decide) (by decide))
  have nx5:m4.next≤m5.next:=by rw[hm5];exact Int.le_refl _
  clear hm5
  clear h5 mv5
  by_cases hq0:0<q
  ·go_wp2_with fail
   refine (mk_take H5.out 12 (by decide) (by have:=SM5.out.1;omega)).mono ?_
   rintro e w6 ⟨m6,⟨u,rfl,⟨hu0,hu1⟩,hm6⟩,h6,mv6⟩
   have H6:=Lib.hid h6
   have MV6:=Lib.hid (MV5.out.trans mv6)
   have SM6:=Lib.hid (SM5.out.mv mv6 (by decide) (by decide) (by decide))
   have nx6:m5.next≤m6.next:=by rw[hm6];exact Int.le_refl _
   clear hm6
   clear h6 mv6
   go_wp2_with fail
   refine (mk_constant H6.out (SM6.out.mono (by decide)) b (by rw[MV6.out.len];exact HB.out) (1+u) (by unfold In32;omega)).mono ?_
   rintro e w7 ⟨m7,⟨e2,rfl,he20,he21⟩,h7,mv7⟩
   have H7:=Lib.hid h7
   have MV7:=Lib.hid (MV6.out.trans mv7)
   have SM7:=Lib.hid (SM6.out.mv mv7 (by decide) (by decide) (by decide))
   have nx7:=mv7.next.1
   clear h7 mv7
   go_wp2_with fail
   refine (mk_fresh H7.out ⟨by omega,by have:=SM7.out.2.1;omega⟩).mono ?_
   rintro e w8 ⟨m8,⟨rfl,hm8⟩,h8,mv8⟩
   have H8:=Lib.hid h8
   have MV8:=Lib.hid (MV7.out.trans mv8)
   have SM8:=Lib.hid (SM7.out.mv mv8 (by decide) (by decide) (by decide))
   have nx8:m7.next+1≤m8.next:=by rw[hm8];exact Int.le_refl _
   clear hm8
   clear h8 mv8
   go_wp2_with fail
   have AD8:=Lib.hid (show Ints _ _ _∧Stays _ _ _ from H8.out.newInts [a,e2] #[.int .i64 (a),.int .i64 (e2)] rfl 2 rfl (by show 2≤maxLen;decide) 3)
   refine (Calls.since_mk ((Since.refl _).alloc _) (mk_add (H8.out.keep ((Since.refl _).alloc _)) (SM8.out.mono (by decide)) b (by rw[MV8.out.len];exact HB.out) ⟨14,m7.next,0,[a,e2],_,0⟩ AD8.out (good_two (by decide) ⟨by omega,by omega⟩ ⟨by omega,by omega⟩ ⟨by omega,by omega⟩))).mono ?_
   rintro e w9 ⟨m9,⟨rfl,hm9⟩,h9,mv9⟩
   have H9:=Lib.hid h9
   have MV9:=Lib.hid (MV8.out.trans mv9)
   have SM9:=Lib.hid (SM8.out.mv mv9 (by decide) (by decide) (by decide))
   have nx9:m8.next≤m9.next:=by rw[hm9];exact Int.le_refl _
   clear hm9
   clear h9 mv9
   go_wp2_with fail
   go_end0
   refine⟨_,?_,H9.out,MV9.out.more (by decide) (by decide) (by decide)⟩
   exact rfl
  ·obtain rfl:q=0:=by omega
   go_wp2_with fail
   refine (mk_fresh H5.out ⟨by omega,by have:=SM5.out.2.1;omega⟩).mono ?_
   rintro e w6 ⟨m6,⟨rfl,hm6⟩,h6,mv6⟩
   have H6:=Lib.hid h6
   have MV6:=Lib.hid (MV5.out.trans mv6)
   have SM6:=Lib.hid (SM5.out.mv mv6 (by decide) (by decide) (by decide))
   have nx6:m5.next+1≤m6.next:=by rw[hm6];exact Int.le_refl _
   clear hm6
   clear h6 mv6
   go_wp2_with fail
   have AD6:=Lib.hid (show Ints _ _ _∧Stays _ _ _ from H6.out.newInts [a,c] #[.int .i64 (a),.int .i64 (c)] rfl 2 rfl (by show 2≤maxLen;decide) 3)
   refine (Calls.since_mk ((Since.refl _).alloc _) (mk_add (H6.out.keep ((Since.refl _).alloc _)) (SM6.out.mono (by decide)) b (by rw[MV6.out.len];exact HB.out) ⟨14,m5.next,0,[a,c],_,0⟩ AD6.out (good_two (by decide) ⟨by omega,by omega⟩ ⟨by omega,by omega⟩ ⟨by omega,by omega⟩))).mono ?_
   rintro e w7 ⟨m7,⟨rfl,hm7⟩,h7,mv7⟩
   have H7:=Lib.hid h7
   have MV7:=Lib.hid (MV6.out.trans mv7)
   have SM7:=Lib.hid (SM6.out.mv mv7 (by decide) (by decide) (by decide))
   have nx7:m6.next≤m7.next:=by rw[hm7];exact Int.le_refl _
   clear hm7
   clear h7 mv7
   go_wp2_with fail
   go_end0
   refine⟨_,?_,H7.out,MV7.out.more (by decide) (by decide) (by decide)⟩
   exact rfl
 ·go_wp2_with fail
  refine (mk_memory H1.out (SM1.out.mono (by decide)) b (by rw[MV1.out.len];exact HB.out) false).mono ?_
  rintro e w2 ⟨m2,rfl,h2,mv2⟩
  have H2:=Lib.hid h2
  have MV2:=Lib.hid (MV1.out.trans mv2)
  have SM2:=Lib.hid (SM1.out.mv mv2 (by decide) (by decide) (by decide))
  have nx2:=mv2.next.1
  clear h2 mv2
  go_wp2_with fail
  go_end0
  refine⟨_,?_,H2.out,MV2.out.more (by decide) (by decide) (by decide)⟩
  exact rfl
 ·go_wp2_with fail
  refine (mk_memory H1.out (SM1.out.mono (by decide)) b (by rw[MV1.out.len];exact HB.out) true).mono ?_
  rintro e w2 ⟨m2,rfl,h2,mv2⟩
  have H2:=Lib.hid h2
  have MV2:=Lib.hid (MV1.out.trans mv2)
  have SM2:=Lib.hid (SM1.out.mv mv2 (by decide) (by decide) (by decide))
  have nx2:=mv2.next.1
  clear h2 mv2
  go_wp2_with fail
  go_end0
  refine⟨_,?_,H2.out,MV2.out.more (by decide) (by decide) (by decide)⟩
  exact rfl
 ·go_wp2_with fail
  obtain⟨w2,hw2⟩:∃ x,x=w1.alloc (.cells #[] 3):=⟨_,rfl⟩
  rw[←hw2]
  have hs2:Since w1 w2:=by rw[hw2];exact (Since.refl _).alloc _
  have hz2:w2.heap.size=w1.heap.size+1:=by rw[hw2];simp
  obtain⟨B,hBs⟩:∃ B,B=w1.heap.size:=⟨_,rfl⟩
  obtain⟨m2,hm2⟩:∃ x,x=m1:=⟨_,rfl⟩
  have hst:MkOk (CV C (.slice (some ⟨w1.heap.size,0,none⟩) 0 0)) mb bv sv l m2 w2:=by
   rw[hm2]
   refine H1.out.swapC (Turn.since (S:=fun _=>False) hs2) (fun q _ e=>e.elim) ?_
   rintro q (hq|hq)
   ·exact⟨.inl hq,by have:=(H1.out.aside q hq).1;omega⟩
   ·cases hq;exact⟨.inr (Nat.le_refl _),by show w1.heap.size<w2.heap.size;omega⟩
  have hob:HeapIs w2 w1.heap.size #[] 3∧¬ Own mb bv m2 w1.heap.size:=⟨by rw[hw2];exact HeapIs.new _ _ _,fun h1=>absurd (H1.out.ltOwn (by rw[←hm2];exact h1)) (Nat.lt_irrefl _)⟩
  have H2:=Lib.hid hst
  have OB2:=Lib.hid hob
  have MV2:=Lib.hid (MV1.out.keep hs2)
  have SM2:=SM1
  have HCB:=Lib.hid (fun q (hq:C q)=>(H1.out.aside q hq).1)
  have HWB:=Lib.hid MV1.out.turn.size
  rw[←hm2]at MV2 SM2
  rw[←hBs]at H2 OB2 HCB HWB
  rw[←hBs]
  clear hw2 hs2 hst hob hm2 hBs hz2
  have nx2:0≤m2.next:=H2.out.next0
  refine (mk_take H2.out 5 (by decide) (by have:=SM2.out.1;omega)).mono ?_
  rintro e w3 ⟨m3,⟨cn,rfl,⟨hcn0,hcn1⟩,hm3⟩,h3,mv3⟩
  have H3:=Lib.hid h3
  have MV3:=Lib.hid (MV2.out.trans mv3)
  have SM3:=Lib.hid (SM2.out.mv mv3 (by decide) (by decide) (by decide))
  have nx3:m2.next≤m3.next:=by rw[hm3];exact Int.le_refl _
  clear hm3
  have OB3:=Lib.hid (mv3.carry OB2.out)
  clear h3 mv3
  obtain⟨cnt,rfl⟩:∃ n:Nat,cn=n:=⟨cn.toNat,by omega⟩
  have hcl:CallL C mb bv sv l w m0 B 0 (.slice (some ⟨B,0,none⟩) 0 0) [] m3 w3:=⟨H3.out,MV3.out.more (by decide) (by decide) (by decide),⟨rfl,.inr ⟨B,0,#[],rfl,Nat.le_refl _,OB3.out.1,Nat.le_refl _,Nat.zero_le _,rfl,rfl⟩⟩,rfl,fun y hy=>(by cases hy),by have:=OB3.out.1.lt;omega⟩
  have HCL:=Lib.hid hcl
  clear hcl
  go_wp2_with fail
  go_loopw [12,14] (fun av i wr=>∃ (t:Nat) (v:Value) (xs:List Int) (mt:MkSt),t≤cnt∧av=v∧i=.int .i64 t∧CallL C mb bv sv l w m0 B t v xs mt wr) (fun _ i _=>cnt-(intOf i).toNat)
  case atStart=>exact⟨0,_,[],m3,Nat.zero_le _,rfl,rfl,HCL.out⟩
  case round =>
   obtain⟨t,v,xs,mt,ht,rfl,rfl,hL⟩:=hrel
   obtain⟨va,vc,hv⟩:=own_shape hL.own
   rw[hL.len]at hv
   subst hv
   have HL:=Lib.hid hL
   clear hL
   by_cases hlt:t<cnt
   ·go_wp2_with fail
    refine (mk_some HL.out.ok ((SM0.out.mv HL.out.mv (by omega) (by omega) (by omega)).mono (by decide)) b (by rw[HL.out.mv.len];exact HB.out)).mono ?_
    rintro e wa ⟨ma,⟨y,rfl,hy0,hy1⟩,ha,mva⟩
    have hown:=own_turn HL.out.own mva.turn (fun q hq e=>(HL.out.ok.aside q (.inr hq)).2 e)
    have HA:=Lib.hid ha
    have MVA:=Lib.hid mva
    have HOWN:=Lib.hid hown
    clear ha mva hown
    go_wp2_with (refine wpList_append_nums2 (base:=B) .i64 rfl _ _ 32 rfl 3 (.int .i64 0) 8 Tryz.underlying32 Tryz.info3 rfl (by decide) (.slice va t vc) _ xs [y] rfl rfl (own_keep HOWN.out ((Since.refl _).alloc _)) (one_nums _ _ _) (by rw[HL.out.len];simp;omega) (by have:=HL.out.base;have:=MVA.out.turn.size;simp;omega) ?_;intro v6 w6 hown6 ht6 hnew6;obtain⟨a6,c6,hv6⟩:=own_shape hown6;rw[show (xs++[y]).length=t+1 from by rw[List.length_append,HL.out.len];rfl]at hv6;subst hv6;have HN:=Lib.hid (HL.out.next HA.out MVA.out ⟨hy0,hy1⟩ HCB.out HWB.out hown6 ht6 hnew6);clear hown6 ht6 hnew6)
    go_roundw
    case rel=>exact⟨t+1,_,_,_,by omega,rfl,by go_num,HN.out⟩
    case measure=>simp[intOf];omega
   ·obtain rfl:cnt=t:=by omega
    obtain⟨w4,hw4⟩:∃ x,x=wr:=⟨_,rfl⟩
    subst hw4
    have hC:MkOk C mb bv sv l mt w4:=HL.out.ok.swapC (Turn.refl (fun _=>False) _) (fun q _ e=>e.elim) fun q hq=>⟨.inl (.inl hq),(HL.out.ok.aside q (.inl hq)).1⟩
    have hav:Ints w4 (.slice va cnt vc) xs∧Stays (OwnC C mb bv mt) w4 (.slice va cnt vc):=⟨nums_of_own HL.out.own,fun q hq=>⟨fun e=>by
     rcases e with e|e
     ·exact (HL.out.ok.aside q (.inr hq)).2 e
     ·have:=HCB.out q e
      have:=(World.ownsRow.lt HL.out.own q hq).1
      omega,(HL.out.ok.aside q (.inr hq)).1⟩⟩
    have hxl:xs.length≤4:=by rw[HL.out.len];omega
    obtain⟨m4,hm4⟩:∃ x,x=mt:=⟨_,rfl⟩
    subst hm4
    have H4:=Lib.hid hC
    have AV4:=Lib.hid hav
    have XL:=Lib.hid hxl
    have IN4:=Lib.hid HL.out.inr
    have MV4:=Lib.hid (HL.out.mv.more (a':=22) (n':=4) (i':=4) (by omega) (by omega) (by omega))
    have SM4:=Lib.hid ((SM0.out.mv MV4.out (by decide) (by decide) (by decide)).mono (k':=15) (by decide))
    have nx4:0≤m4.next:=hC.next0
    clear hC hav hxl
    go_wp2_with fail
    refine (mk_fresh H4.out ⟨by omega,by have:=SM4.out.2.1;omega⟩).mono ?_
    rintro e w5 ⟨m5,⟨rfl,hm5⟩,h5,mv5⟩
    have nx5:m4.next+1≤m5.next:=by rw[hm5];exact Int.le_refl _
    have AV5:=Lib.hid (show Ints _ _ _∧Stays _ _ _ from⟨mv5.nums AV4.out.1 AV4.out.2,mv5.stays AV4.out.2⟩)
    have H5:=Lib.hid h5
    have MV5:=Lib.hid (MV4.out.trans mv5)
    have SM5:=Lib.hid (SM4.out.mv mv5 (by decide) (by decide) (by decide))
    clear h5 mv5 hm5
    go_wp2_with fail
    refine (mk_take H5.out 5 (by decide) (by have:=SM5.out.1;omega)).mono ?_
    rintro e w6 ⟨m6,⟨im,rfl,⟨him0,him1⟩,hm6⟩,h6,mv6⟩
    have nx6:m5.next≤m6.next:=by rw[hm6];exact Int.le_refl _
    have AV6:=Lib.hid (show Ints _ _ _∧Stays _ _ _ from⟨mv6.nums AV5.out.1 AV5.out.2,mv6.stays AV5.out.2⟩)
    have H6:=Lib.hid h6
    have MV6:=Lib.hid (MV5.out.trans mv6)
    have SM6:=Lib.hid (SM5.out.mv mv6 (by decide) (by decide) (by decide))
    clear h6 mv6 hm6
    go_wp2_with fail
    refine (mk_add H6.out (SM6.out.mono (by decide)) b (by rw[MV6.out.len];exact HB.out) ⟨17,m4.next,0,xs,.slice va cnt vc,im⟩ AV6.out (good_call (by unfold In32;omega) (fun a ha=>by have:=IN4.out a ha;omega) ⟨by omega,by omega⟩ XL.out)).mono ?_
    rintro e w7 ⟨m7,⟨rfl,hm7⟩,h7,mv7⟩
    have H7:=Lib.hid h7
    have MV7:=Lib.hid (MV6.out.trans mv7)
    clear h7 mv7 hm7
    go_wp2
    go_end0
    exact⟨_,rfl,H7.out,MV7.out.more (by decide) (by decide) (by decide)⟩
 ·go_wp2_with fail
  refine (mk_some H1.out (SM1.out.mono (by decide)) b (by rw[MV1.out.len];exact HB.out)).mono ?_
  rintro e w2 ⟨m2,⟨a,rfl,ha0,ha1⟩,h2,mv2⟩
  have H2:=Lib.hid h2
  have MV2:=Lib.hid (MV1.out.trans mv2)
  have SM2:=Lib.hid (SM1.out.mv mv2 (by decide) (by decide) (by decide))
  have nx2:=mv2.next.1
  clear h2 mv2
  go_wp2_with fail
  refine (mk_some H2.out (SM2.out.mono (by decide)) b (by rw[MV2.out.len];exact HB.out)).mono ?_
  rintro e w3 ⟨m3,⟨c,rfl,hc0,hc1⟩,h3,mv3⟩
  have H3:=Lib.hid h3
  have MV3:=Lib.hid (MV2.out.trans mv3)
  have SM3:=Lib.hid (SM2.out.mv mv3 (by decide) (by decide) (by decide))
  have nx3:=mv3.next.1
  clear h3 mv3
  go_wp2_with fail
  refine (mk_fresh H3.out ⟨by omega,by have:=SM3.out.2.1;omega⟩).mono ?_
  rintro e w4 ⟨m4,⟨rfl,hm4⟩,h4,mv4⟩
  have H4:=Lib.hid h4
  have MV4:=Lib.hid (MV3.out.trans mv4)
  have SM4:=Lib.hid (SM3.out.mv mv4 (by decide) (by decide) (by decide))
  have nx4:m3.next+1≤m4.next:=by rw[hm4];exact Int.le_refl _
  clear hm4
  clear h4 mv4
  go_wp2_with fail
  refine (mk_fresh H4.out ⟨by omega,by have:=SM4.out.2.1;omega⟩).mono ?_
  rintro e w5 ⟨m5,⟨rfl,hm5⟩,h5,mv5⟩
  have H5:=Lib.hid h5
  have MV5:=Lib.hid (MV4.out.trans mv5)
  have SM5:=Lib.hid (SM4.out.mv mv5 (by decide) (by decide) (by decide))
  have nx5:m4.next+1≤m5.next:=by rw[hm5];exact Int.le_refl _
  clear hm5
  clear h5 mv5
  go_wp2_with fail
  have AD5:=Lib.hid (show Ints _ _ _∧Stays _ _ _ from H5.out.newInts [a,c] #[.int .i64 (a),.int .i64 (c)] rfl 2 rfl (by show 2≤maxLen;decide) 3)
  refine (Calls.since_mk ((Since.refl _).alloc _) (mk_add (H5.out.keep ((Since.refl _).alloc _)) (SM5.out.mono (by decide)) b (by rw[MV5.out.len];exact HB.out) ⟨18,m3.next,m4.next,[a,c],_,0⟩ AD5.out (good_mulw ⟨by omega,by omega⟩ ⟨by omega,by omega⟩ ⟨by omega,by omega⟩ ⟨by omega,by omega⟩ (by omega)))).mono ?_
  rintro e w6 ⟨m6,⟨rfl,hm6⟩,h6,mv6⟩
  have H6:=Lib.hid h6
  have MV6:=Lib.hid (MV5.out.trans mv6)
  have SM6:=Lib.hid (SM5.out.mv mv6 (by decide) (by decide) (by decide))
  have nx6:m5.next≤m6.next:=by rw[hm6];exact Int.le_refl _
  clear hm6
  clear h6 mv6
  go_wp2_with fail
  go_end0
  refine⟨_,?_,H6.out,MV6.out.more (by decide) (by decide) (by decide)⟩
  exact rfl
 ·go_wp2_with fail
  refine (mk_word H1.out (by have:=SM1.out.1;omega)).mono ?_
  rintro e w2 ⟨m2,⟨c,rfl,hc,hm2⟩,h2,mv2⟩
  have H2:=Lib.hid h2
  have MV2:=Lib.hid (MV1.out.trans mv2)
  have SM2:=Lib.hid (SM1.out.mv mv2 (by decide) (by decide) (by decide))
  have nx2:m1.next≤m2.next:=by rw[hm2];exact Int.le_refl _
  clear hm2
  clear h2 mv2
  go_wp2_with fail
  refine (mk_constant H2.out (SM2.out.mono (by decide)) b (by rw[MV2.out.len];exact HB.out) (c) hc).mono ?_
  rintro e w3 ⟨m3,⟨r,rfl,hr0,hr1⟩,h3,mv3⟩
  have H3:=Lib.hid h3
  have MV3:=Lib.hid (MV2.out.trans mv3)
  have SM3:=Lib.hid (SM2.out.mv mv3 (by decide) (by decide) (by decide))
  have nx3:=mv3.next.1
  clear h3 mv3
  go_wp2_with fail
  go_end0
  refine⟨_,?_,H3.out,MV3.out.more (by decide) (by decide) (by decide)⟩
  exact rfl
end
def skel (b:FBlk):List FPhi × Value × FTerm:=(b.phis,b.phv,b.term)
def TermGood (N:Int) (n:Nat) (t:FTerm):Prop:=
 In32 t.imm∧(∀ a∈t.args,0≤a∧a<N)∧(∀ x∈t.to,1≤x∧x<(n:Int)) ∧
 ((t.kind=1∧t.args.length=0∧t.to.length=1)∨(t.kind=2∧t.args.length=1∧t.to.length=2)∨(t.kind=3∧t.args.length=1∧2≤t.to.length∧t.to.length≤65)∨(t.kind=4∧t.args.length≤1∧t.to.length=0)∨(t.kind=5∧t.args.length=0∧t.to.length=0))
theorem TermGood.mono {N N':Int} {n : Nat} {t : FTerm} (h:TermGood N n t) (hN:N≤N'):TermGood N' n t:=⟨h.1,fun a ha=>by have:=h.2.1 a ha;omega,h.2.2⟩
section
variable {C : Nat→Prop} {mb:Nat} {bv sv:Value} {l : List Int} {m m':MkSt} {w w':World} {b bb:Nat} {k : FBlk}
theorem heap_there {q o n:Nat} {cs:Array Value} {T : TypeId} (h:HeapIs w q cs T) (ho:o+n≤cs.size):w.there q o n:=fun i hi=>by
 refine⟨?_,h.frozen _⟩
 rw[h.cell]
 rw[Array.getElem?_eq_getElem (by omega)];rfl
theorem MkOk.setTerm (h:MkOk C mb bv sv l m w) (hb:m.bks[b]? = some k) (hbv:bv.ownBlock=some bb) (t:FTerm) (ht:FTermIn w t∧Stays (OwnC C mb bv m) w t.argsv∧Stays (OwnC C mb bv m) w t.tov) :
  MkOk C mb bv sv l { m with bks:=m.bks.set b { k with term:=t } } (w.setCells bb (b*6+2) [.int .i64 t.kind,t.argsv,t.tov,.int .i32 t.imm])∧Turn (fun q=>q=bb) w (w.setCells bb (b*6+2) [.int .i64 t.kind,t.argsv,t.tov,.int .i32 t.imm]) ∧
   (∀ q,Own mb bv { m with bks:=m.bks.set b { k with term:=t } } q→Own mb bv m q∨w.heap.size≤q):=by
 have hkm:=List.mem_of_getElem? hb
 have hko:=h.each k hkm
 have hB:=h.bbAt hbv
 have e:w.setCells bb (b*6+2) [.int .i64 t.kind,t.argsv,t.tov,.int .i32 t.imm]=(((w.setCell ⟨bb,b*6+2,none⟩ (.int .i64 t.kind)).setCell ⟨bb,b*6+3,none⟩ t.argsv).setCell ⟨bb,b*6+4,none⟩ t.tov).setCell ⟨bb,b*6+5,none⟩ (.int .i32 t.imm):=rfl
 have n1:NewOr w k.inv k.inv:=fun q hq=>.inl hq
 have n2:NewOr w k.phv k.phv:=fun q hq=>.inl hq
 have hS:=own_upd (mb:=mb) (bv:=bv) (k':={ k with term:=t }) hb n1 n2
 have tc:Turn (fun q=>q=bb) w (w.setCells bb (b*6+2) [.int .i64 t.kind,t.argsv,t.tov,.int .i32 t.imm]):=by
  rw[e]
  exact ((((Turn.refl (fun q=>q=bb) w).setCell (p:=⟨bb,b*6+2,none⟩) rfl _).setCell (p:=⟨bb,b*6+3,none⟩) rfl _).setCell (p:=⟨bb,b*6+4,none⟩) rfl _).setCell (p:=⟨bb,b*6+5,none⟩) rfl _
 have hown:Own mb bv m bb:=.inr (.inl hbv)
 have hno:∀ {y : Value},Stays (OwnC C mb bv m) w y→∀ q,y.ownBlock=some q→¬ q=bb:=fun hy q hq e=>(hy q hq).1 (.inl (e ▸ hown))
 have hst:∀ {y : Value},Stays (OwnC C mb bv m) w y→Stays (OwnC C mb bv { m with bks:=m.bks.set b { k with term:=t } }) (w.setCells bb (b*6+2) [.int .i64 t.kind,t.argsv,t.tov,.int .i32 t.imm]) y:=fun hy=>hy.mono (ownC_sub hS) tc.size
 refine⟨h.upd hb hbv (tc.mono fun q _ e=>.inl e) ?_ ⟨?_,?_,fun x hx=>?_,fun x hx=>?_,⟨ht.1.1.turn tc (hno ht.2.1),ht.1.2.turn tc (hno ht.2.2)⟩,hst ht.2.1,hst ht.2.2⟩ n1 n2 fun x hx=>h.good.ins k hkm x hx,tc,hS⟩
 ·rw[e]
  have h1:=hB.set (b*6+2) (.int .i64 t.kind)
  rw[List.setIfInBounds_toArray,flat_setM fbcells 6 fbcells_len 2 (.int .i64 t.kind) k { k with term:={ k.term with kind:=t.kind } } (by decide) rfl _ _ hb]at h1
  have hlt:b<m.bks.length:=(List.getElem?_eq_some_iff.1 hb).1
  have g:∀ x:FBlk,(m.bks.set b x)[b]? = some x:=fun x=>by rw[List.getElem?_set_self hlt]
  have h2:=h1.set (b*6+3) t.argsv
  rw[List.setIfInBounds_toArray,flat_setM fbcells 6 fbcells_len 3 t.argsv { k with term:={ k.term with kind:=t.kind } } { k with term:={ k.term with kind:=t.kind,argsv:=t.argsv } } (by decide) rfl _ _ (g _),List.set_set]at h2
  have h3:=h2.set (b*6+4) t.tov
  rw[List.setIfInBounds_toArray,flat_setM fbcells 6 fbcells_len 4 t.tov { k with term:={ k.term with kind:=t.kind,argsv:=t.argsv } } { k with term:={ k.term with kind:=t.kind,argsv:=t.argsv,tov:=t.tov } } (by decide) rfl _ _ (g _),List.set_set]at h3
  have h4:=h3.set (b*6+5) (.int .i32 t.imm)
  rw[List.setIfInBounds_toArray,flat_setM fbcells 6 fbcells_len 5 (.int .i32 t.imm) { k with term:={ k.term with kind:=t.kind,argsv:=t.argsv,tov:=t.tov } } { k with term:=t } (by decide) rfl _ _ (g _),List.set_set]at h4
  exact h4
 ·exact own_turn hko.phis tc fun q hq e=>own_not hko.phis hB (by decide) (e ▸ hq)
 ·exact own_turn hko.ins tc fun q hq e=>own_not hko.ins hB (by decide) (e ▸ hq)
 ·obtain⟨h3,h4⟩:=hko.phi x hx
  exact⟨RowIn.turn h3 tc (hno h4) fun _ _ h=>h,hst h4⟩
 ·obtain⟨h3,h4⟩:=hko.arg x hx
  exact⟨h3.turn tc (hno h4),hst h4⟩
end
end Go.Proofs.YtmhojfpidedjeaaGreatDoor
