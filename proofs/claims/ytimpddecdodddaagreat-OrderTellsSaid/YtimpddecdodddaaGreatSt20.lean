import Derived.Test.YtimpddecdodddaaGreatSt19
import Derived.Deep.MidRow
namespace Go.Proofs.YtimpddecdodddaaGreat
open Go.Proofs.Tryz Go.RowKit Go.Lib
set_option linter.unusedVariables false
set_option maxHeartbeats 2000000
set_option maxRecDepth 100000
theorem zK {P:Prop} (h:P:=by
 have hc:w20.cell? ⟨w1.heap.size,kn,none⟩=some (.int .i64 o):=(hd.box.cell kn).trans (by show (opsV.map (Value.int .i64)).toArray[kn]? = _;rw[List.getElem?_toArray,List.getElem?_map,HO.out];rfl)
 have hl:=hd.box.lt;go_wp2
 exact⟨_,rfl,rfl,Since.refl _,hd⟩):P:=h
theorem qd {P:Prop} (h:P:=by
 rintro e w2 ⟨m2,rfl,h2,mv2⟩;have H2:=hid h2;have MV2:=hid (MV1.out.trans mv2);have SM2:=hid (SM1.out.mv mv2);have nx2:=mv2.next.1;clear h2 mv2;go_wp2_with fail
 go_end0
 refine⟨_,?_,H2.out,MV2.out.more⟩;exact rfl):P:=h
theorem jg {P:Prop} (h:P:=by
 simp only[hi];have HQ:=hid hj;clear hk hi hj;go_wp2
 exact⟨_,rfl,⟨_,rfl,HQ.out,hp⟩,Since.refl _,hd⟩):P:=h
theorem jj {P:Prop} (h:P:=by
 have HP:=hid (hd.keep hh);clear hk hd;go_wp2
 exact⟨_,rfl,⟨_,rfl,HeapIs.new _ _ _,hH⟩,hh,HP.out⟩):P:=h
theorem jA {P:Prop} (h:P:=by obtain⟨h3,h4⟩:=ha.phi x hx;exact⟨RowIn.turn h3 tc (hd h4) fun _ _ h=>h,hc h4⟩):P:=h
theorem jR {P:Prop} (h:P:=by
 have HT:=hid t21;clear hA mv21 t21;go_wp2
 exact⟨_,rfl,rfl,HT.out,HP.out⟩):P:=h
theorem ky {P:Prop} (h:P:=by
 go_wp2
 exact⟨_,rfl,rfl,Since.refl _,hd⟩):P:=h
def opsV:List Int:=[2,2,3,4,5,6,7,8,9,10,12,11]
theorem ZeY (k:Nat) (h:k<12):∃ o,opsV[k]? = some o∧2≤o∧o≤14:=by
 have h1:∀ k:Nat,k<12→(match opsV[k]? with | some o=>decide (2≤o∧o≤14) | none=>false)=true:=zaJ
 have h2:=h1 k h
 cases hk:opsV[k]? with
 | none=>rw[hk]at h2;cases h2
 | some o=>rw[hk]at h2;exact⟨o,rfl,of_decide_eq_true h2⟩
section
variable {C : Nat→Prop} {mb:Nat} {bv sv:Value} {l : List Int} {m m':Zm} {w w':World}
theorem Mv.carry {a n i q:Nat} {cs:Array Value} {T : TypeId} (h:Mv mb bv w m w' m' a n i) (hq:HeapIs w q cs T∧¬ Own mb bv m q):HeapIs w' q cs T∧¬ Own mb bv m' q:=
 ⟨h.heap hq.1 hq.2,fun e=>by
  rcases h.new q e with h1|h1
  ·exact hq.2 h1
  ·have:=hq.1.lt;omega⟩
theorem Zcc {q : Nat} {cs:Array Value} {T : TypeId} (hq:HeapIs w q cs T∧¬ Own mb bv m q) (s:Since w w'):HeapIs w' q cs T∧¬ Own mb bv m q:=⟨hq.1.keep s,hq.2⟩
def CV (C:Nat→Prop) (v:Value) (q:Nat):Prop:=C q∨v.ownBlock=some q
structure Qj (C:Nat→Prop) (mb:Nat) (bv sv:Value) (l:List Int) (w:World) (m0:Zm) (base t:Nat) (v:Value) (xs:List Int) (mt:Zm) (wr:World):Prop where
 ok:MkOk (CV C v) mb bv sv l mt wr
 mv:Mv mb bv w m0 wr mt (2+5*t) t t
 own:wr.ownsRow base 3 1 v xs.length (xs.map (Value.int .i64))
 len:xs.length=t
 inr:∀ y∈xs,0≤y∧y<mt.next
 base:base≤wr.heap.size
theorem Mv.beside {T : Nat→Prop} {w'':World} {a n i:Nat} (h:Mv mb bv w m w' m' a n i) (t:Zb T w' w'') (hT:∀ q,q<w.heap.size→¬ T q):Mv mb bv w m w'' m' a n i:=by
 have hz:=h.turn.size;have h1:Zb (fun q=>Own mb bv m q∨T q) w w':=h.turn.mono fun _ _ h=>.inl h
 have h2:Zb (fun q=>Own mb bv m q∨T q) w' w'':=t.mono fun q _ hq=>.inr hq
 refine⟨(h1.trans h2).mono fun q hq hs=>?_,h.new,h.at_,h.next,h.total,h.live,h.same⟩;rcases hs with hs|hs
 ·exact hs
 ·exact absurd hs (hT q hq)
theorem Ym (w:World) (y:Int) (T:TypeId):Zd (w.alloc (.cells #[.int .i64 y] T)) (.slice (some ⟨w.heap.size,0,none⟩) 1 1) [y]:=
 Wc [y] _ 1 (Nat.le_refl _) zap (ZG _ _) fun j n hj=>by
  match j,hj with
  | 0,hj=>simpa using hj
theorem Qj.next {base t:Nat} {v v':Value} {xs:List Int} {mt ma:Zm} {wr wa w6:World} {m0:Zm} {y : Int} {o : Obj} (h:Qj C mb bv sv l w m0 base t v xs mt wr) (ha:MkOk (CV C v) mb bv sv l ma wa) (mva:Mv mb bv wr mt wa ma 5 1 1) (hy:0≤y∧y<ma.next) (hf:∀ q,C q→q<base) (he:w.heap.size≤base)
  (hb:w6.ownsRow base 3 1 v' (xs++[y]).length ((xs++[y]).map (Value.int .i64))) (t6:Zb (fun q=>v.ownBlock=some q) (wa.alloc o) w6) (hc:Yb (wa.alloc o) v v'):Qj C mb bv sv l w m0 base (t+1) v' (xs++[y]) ma w6:=by
 have hz:=t6.size;have hd:wa.heap.size≤(wa.alloc o).heap.size:=by simp
 refine⟨(ha.keep ((Since.refl _).alloc o)).swapC t6 (fun q _ hq=>.inr hq) ?_,?_,hb,by rw[List.length_append,h.len];rfl,fun z hz=>?_,by have:=h.base;have:=mva.turn.size;omega⟩
 ·rintro q (hq|hq)
  ·exact⟨.inl (.inl hq),by have:=(ha.aside q (.inl hq)).1;omega⟩
  ·refine⟨?_,ZR hb hq⟩;rcases hc q hq with h1|h1
   ·exact .inl (.inr h1)
   ·exact .inr h1
 ·refine (((h.mv.trans mva).keep ((Since.refl _).alloc o)).beside t6 fun q hq e=>?_).more zaK zaK zaK
  have:=(World.ownsRow.lt h.own q e).1;omega
 ·rcases List.mem_append.1 hz with hz|hz
  ·have:=h.inr z hz;have:=mva.next;omega
  ·obtain rfl:=List.mem_singleton.1 hz;exact hy
structure FrPh (C:Nat→Prop) (mb:Nat) (bv sv:Value) (l:List Int) (w0:World) (m:Zm) (ob:Nat) (cs:Array Value) (T:TypeId) (p:Nat) (w:World):Prop where
 one:p=0→MkOk C mb bv sv l m w∧Since w0 w
 two:p≠0→MkOk C mb bv sv l { m with next:=m.next+1 } w∧Mv mb bv w0 m w { m with next:=m.next+1 } 0 1 0
 box:HeapIs w ob cs T
 lt:∀ q,ZE C mb bv m q→q<w.heap.size
theorem FrPh.keep {w0 w1 w2:World} {ob p:Nat} {cs:Array Value} {T : TypeId} (h:FrPh C mb bv sv l w0 m ob cs T p w1) (s:Since w1 w2):FrPh C mb bv sv l w0 m ob cs T p w2:=
 ⟨fun e=>⟨(h.one e).1.keep s,(h.one e).2.trans s⟩,fun e=>⟨(h.two e).1.keep s,(h.two e).2.keep s⟩,h.box.keep s,fun q hq=>Nat.lt_of_lt_of_le (h.lt q hq) s.size⟩
def WJ (S:Nat→Prop) (a b:Int) (v:Value) (w:World):Prop:=∃ q,v=.slice (some ⟨q,0,none⟩) 2 2∧HeapIs w q #[.int .i64 a,.int .i64 b] 3∧¬ S q
theorem WJ.stable (S:Nat→Prop) (a b:Int):ZH (WJ S a b):=fun v w w' ⟨q,h1,h2,h3⟩ s=>⟨q,h1,h2.keep s,h3⟩
theorem WJ.stableT {S T:Nat→Prop} (a b:Int) (h:∀ q,T q→S q):Yw T (WJ S a b):=fun v w w' ⟨q,h1,h2,h3⟩ t=>⟨q,h1,h2.turn t (fun e=>h3 (h q e)),h3⟩
def WO (S:Nat→Prop) (op d a b:Int) (v:Value) (w:World):Prop:=∃ q,v=.agg #[.int .i64 op,.int .i64 d,.int .i64 0,.slice (some ⟨q,0,none⟩) 2 2,.int .i32 0]∧HeapIs w q #[.int .i64 a,.int .i64 b] 3∧¬ S q
theorem WO.stable (S:Nat→Prop) (op d a b:Int):ZH (WO S op d a b):=fun v w w' ⟨q,h1,h2,h3⟩ s=>⟨q,h1,h2.keep s,h3⟩
theorem WO.stableT {S T:Nat→Prop} (op d a b:Int) (h:∀ q,T q→S q):Yw T (WO S op d a b):=fun v w w' ⟨q,h1,h2,h3⟩ t=>⟨q,h1,h2.turn t (fun e=>h3 (h q e)),h3⟩
theorem Zan {q : Nat} {a b:Int} (h:HeapIs w q #[.int .i64 a,.int .i64 b] 3) (hS:¬ ZE C mb bv m q):Zd w (.slice (some ⟨q,0,none⟩) 2 2) [a,b]∧Stays (ZE C mb bv m) w (.slice (some ⟨q,0,none⟩) 2 2):=
 ⟨Wc [a,b] _ 2 (Nat.le_refl _) zao h fun j n hj=>by
  match j,hj with
  | 0,hj=>simpa using hj
  | 1,hj=>simpa using hj,fun q2 hq=>by cases hq;exact⟨hS,h.lt⟩⟩
theorem Qr (h:MkOk C mb bv sv l m w) (hs:Sm 10 m) (b:Nat) (hb:b<m.bks.length) :
  Calls prog 111 #[.pointer (some ⟨mb,0,none⟩),.int .i64 b] w (MkQ C mb bv sv l w m 30 6 7 K9):=by
 obtain⟨m0,Hl⟩:∃ x,x=m:=⟨_,rfl⟩
 subst Hl;have H0:=hid h;have MV0:=hid (Mv.refl mb bv w m0);have SM0:=hid hs;have HB:=hid hb;have nx0:=h.next0;clear h hs;have HF:=hb;go_enter func111,ntmps111
 go_wp2_with fail
 refine (ZF H0.out 20 zaJ zal).mono ?_;rintro e w1 ⟨m1,⟨k,rfl,⟨HC,Hz⟩,hZ⟩,h1,mv1⟩;have H1:=hid h1;have MV1:=hid (MV0.out.trans mv1);have SM1:=hid (SM0.out.mv mv1);have nx1:m0.next≤m1.next:=by rw[hZ];exact Int.le_refl _
 clear hZ;clear h1 mv1;have key:k<12∨k=12∨k=13∨k=14∨k=15∨k=16∨k=17∨18≤k:=zaK
 rcases key with hk|rfl|rfl|rfl|rfl|rfl|rfl|hk
 ·obtain⟨kn,rfl⟩:∃ kn:Nat,k=kn:=⟨k.toNat,zaK⟩
  obtain⟨o,ho,hW,hV⟩:=ZeY kn zaK;have HO:=hid ho;clear ho;go_wp2_with fail
  obtain⟨w2,hn⟩:∃ x,x=w1.alloc (.cells #[.int .i64 2,.int .i64 2,.int .i64 3,.int .i64 4,.int .i64 5,.int .i64 6,.int .i64 7,.int .i64 8,.int .i64 9,.int .i64 10,.int .i64 12,.int .i64 11] 208):=⟨_,rfl⟩
  rw[←hn];have hh:Since w1 w2:=by rw[hn];exact (Since.refl _).alloc _
  obtain⟨m2,hm⟩:∃ x,x=m1:=⟨_,rfl⟩
  have H2:=hid (H1.out.keep hh);have MV2:=hid (MV1.out.keep hh);have SM2:=SM1;have OB2:=zH (HeapIs w2 w1.heap.size #[.int .i64 2,.int .i64 2,.int .i64 3,.int .i64 4,.int .i64 5,.int .i64 6,.int .i64 7,.int .i64 8,.int .i64 9,.int .i64 10,.int .i64 12,.int .i64 11] 208∧¬ Own mb bv m1 w1.heap.size) ⟨by rw[hn];exact HeapIs.new _ _ _,fun h1=>absurd (H1.out.ltOwn h1) (Nat.lt_irrefl _)⟩;rw[←hm]at H2 MV2 SM2 OB2;have nx2:m1.next≤m2.next:=by rw[hm];exact Int.le_refl _
  clear hn hh hm;refine (YC H2.out (SM2.out.mono zaJ) b zae).mono ?_;rintro e w3 ⟨m3,⟨a,rfl,hM,hK⟩,h3,mv3⟩;have H3:=hid h3;have MV3:=hid (MV2.out.trans mv3);have SM3:=hid (SM2.out.mv mv3);have nx3:=mv3.next.1;have OB3:=hid (mv3.carry OB2.out);clear h3 mv3;go_wp2_with fail
  refine (YC H3.out (SM3.out.mono zaJ) b zaf).mono ?_;rintro e w4 ⟨m4,⟨c,rfl,hJ,hI⟩,h4,mv4⟩;have H4:=hid h4;have MV4:=hid (MV3.out.trans mv4);have SM4:=hid (SM3.out.mv mv4);have nx4:=mv4.next.1;have OB4:=hid (mv4.carry OB3.out);clear h4 mv4;go_wp2_with fail
  refine (ZF H4.out 3 zaJ (by have:=SM4.out.1;omega)).mono ?_;rintro e w5 ⟨m5,⟨q,rfl,⟨hu,hi⟩,hg⟩,h5,mv5⟩;have H5:=hid h5;have MV5:=hid (MV4.out.trans mv5);have SM5:=hid (SM4.out.mv mv5);have nx5:m4.next≤m5.next:=by rw[hg];exact Int.le_refl _
  clear hg;have OB5:=hid (mv5.carry OB4.out);clear h5 mv5;by_cases hu:q=0
  ·subst hu;go_wp2_with fail
   refine (ZF H5.out 40 zaJ zan).mono ?_;rintro e w6 ⟨m6,⟨t,rfl,⟨Hj,Hi⟩,hf⟩,h6,mv6⟩;have H6:=hid h6;have MV6:=hid (MV5.out.trans mv6);have SM6:=hid (SM5.out.mv mv6);have nx6:m5.next≤m6.next:=by rw[hf];exact Int.le_refl _
   clear hf;have OB6:=hid (mv6.carry OB5.out);clear h6 mv6;go_wp2_with fail
   refine (Yv H6.out (SM6.out.mono zaJ) b zah (t-8) zas).mono ?_;rintro e w7 ⟨m7,⟨d,rfl,HE,HD⟩,h7,mv7⟩;have H7:=hid h7;have MV7:=hid (MV6.out.trans mv7);have SM7:=hid (SM6.out.mv mv7);have nx7:=mv7.next.1;have OB7:=hid (mv7.carry OB6.out);clear h7 mv7;go_wp2_with fail
   have hD:=zH (FrPh C mb bv sv l w7 m7 w1.heap.size #[.int .i64 2,.int .i64 2,.int .i64 3,.int .i64 4,.int .i64 5,.int .i64 6,.int .i64 7,.int .i64 8,.int .i64 9,.int .i64 10,.int .i64 12,.int .i64 11] 208 0 w7.drew) ⟨fun _=>⟨H7.out.keep (Since.refl _).drew,(Since.refl _).drew⟩,fun e=>absurd rfl e,OB7.out.1.keep (Since.refl _).drew,fun q hq=>H7.out.ltOwnC hq⟩
   refine Xa 11 6 [6] [0,0,0,0,0,0,0,0,0,0,1] [1,1,1,1,1,0,0,1,1,1,1] [0,0,0,0,0,0,1,0,0,0,0] (fun q=>q=mb) (FrPh C mb bv sv l w7 m7 w1.heap.size #[.int .i64 2,.int .i64 2,.int .i64 3,.int .i64 4,.int .i64 5,.int .i64 6,.int .i64 7,.int .i64 8,.int .i64 9,.int .i64 10,.int .i64 12,.int .i64 11] 208) rfl zaC zaC zaC zaJ zaC
    [Is (.pointer (some ⟨mb,0,none⟩)),Is (.int .i64 b),Is (.int .i64 kn),Is (.pointer (some ⟨w1.heap.size,kn,none⟩)),Is (.int .i64 o),Is (.pointer (some ⟨mb,0,none⟩)),Is (.int .i64 m7.next),Is (.int .i64 a),Is (.int .i64 d),WJ (ZE C mb bv m7) a d,WO (ZE C mb bv m7) o m7.next a d]
    (by repeat (first | exact trivial | refine⟨fun h=>absurd rfl h,?_⟩ | refine⟨fun _=>Is.stableT _ _,?_⟩ | refine⟨fun _=>Any.stableT _,?_⟩ | refine⟨fun _=>WJ.stableT _ _ (fun q e=>.inl (.inl e)),?_⟩ | refine⟨fun _=>WO.stableT _ _ _ _ (fun q e=>.inl (.inl e)),?_⟩)) (by repeat (first | exact trivial | refine⟨Is.stable _,?_⟩ | refine⟨Any.stable,?_⟩ | refine⟨WJ.stable _ _ _,?_⟩ | refine⟨WO.stable _ _ _ _ _,?_⟩)) hD.out ⟨?_,?_,?_,?_,?_,?_,?_,?_,?_,?_,?_,trivial⟩ ?_
   rotate_right
   ·intro vs w20 ht hd hk;revert hk;refine zs0 ?_;intro hk
    obtain⟨q9,hi,hj,hp⟩:WO (ZE C mb bv m7) o m7.next a d (vs 10) w20:=hk.2.2.2.2.2.2.2.2.2.2.1;simp only[hi];have HQ:=hid (And.intro hj hp);have he:=hid (hd.two zaJ);clear hk hd ht hi hj hp;go_wp2_with fail
    refine (Yz he.out.1 ((SM7.out.mv he.out.2).mono zaJ) b (by rw[he.out.2.len,MV7.out.len];exact HB.out) ⟨o,m7.next,0,[a,d],_,0⟩ (Zan (m:={ m7 with next:=m7.next+1 }) HQ.out.1 HQ.out.2) (Y6 ⟨hW,hV⟩ ⟨zaK,by show a<m7.next+1;omega⟩ ⟨zaK,by show d<m7.next+1;omega⟩ ⟨zaK,by show m7.next<m7.next+1;omega⟩)).mono ?_;rintro e w22 ⟨m22,⟨rfl,hB⟩,hz,mv22⟩;have hP:=hid hz;have MV22:=hid (MV7.out.trans (he.out.2.trans mv22));clear hz mv22 hB;go_wp2
    go_end0
    exact⟨_,rfl,hP.out,MV22.out.more⟩
   all_goals
    intro p vs w20 Hm Hn ht hd hk;revert hk;refine zs1 ?_;intro hk
   iterate 4
    ·exact ky
   ·exact zK
   ·exact ky
   ·obtain rfl:p=0:=zaK
    have he:=hid hd;clear hk hd;go_wp2_with fail
    refine (Vo (he.out.one rfl).1 ⟨zaK,by have:=SM7.out.2.1;omega⟩).mono ?_;rintro e w21 ⟨rfl,hA,mv21,t21⟩;have HP:=zH (FrPh C mb bv sv l w7 m7 w1.heap.size #[.int .i64 2,.int .i64 2,.int .i64 3,.int .i64 4,.int .i64 5,.int .i64 6,.int .i64 7,.int .i64 8,.int .i64 9,.int .i64 10,.int .i64 12,.int .i64 11] 208 1 w21) ⟨fun e=>absurd e zaJ,fun _=>⟨hA,Mv.since (he.out.one rfl).2 mv21⟩,mv21.heap he.out.box OB7.out.2,fun q hq=>Nat.lt_of_lt_of_le (he.out.lt q hq) mv21.turn.size⟩
    exact jR
   iterate 2
    ·exact ky
   ·have hH:¬ (ZE C mb bv m7) w20.heap.size:=fun e=>absurd (hd.lt _ e) (Nat.lt_irrefl _)
    have hh:=(Since.refl w20).alloc (.cells #[.int .i64 a,.int .i64 d] 3);exact jj
   ·obtain⟨q9,hi,hj,hp⟩:WJ (ZE C mb bv m7) a d (vs 9) w20:=hk.2.2.1;exact jg
  ·have Hk:(q==0)=false:=by simpa using hu
   clear hu;go_wp2_with fail
   have hD:=zH (FrPh C mb bv sv l w5 m5 w1.heap.size #[.int .i64 2,.int .i64 2,.int .i64 3,.int .i64 4,.int .i64 5,.int .i64 6,.int .i64 7,.int .i64 8,.int .i64 9,.int .i64 10,.int .i64 12,.int .i64 11] 208 0 w5.drew) ⟨fun _=>⟨H5.out.keep (Since.refl _).drew,(Since.refl _).drew⟩,fun e=>absurd rfl e,OB5.out.1.keep (Since.refl _).drew,fun q hq=>H5.out.ltOwnC hq⟩
   refine Xa 11 6 [6] [0,0,0,0,0,0,0,0,0,0,1] [1,1,1,1,1,0,0,1,1,1,1] [0,0,0,0,0,0,1,0,0,0,0] (fun q=>q=mb) (FrPh C mb bv sv l w5 m5 w1.heap.size #[.int .i64 2,.int .i64 2,.int .i64 3,.int .i64 4,.int .i64 5,.int .i64 6,.int .i64 7,.int .i64 8,.int .i64 9,.int .i64 10,.int .i64 12,.int .i64 11] 208) rfl zaC zaC zaC zaJ zaC
    [Is (.pointer (some ⟨mb,0,none⟩)),Is (.int .i64 b),Is (.int .i64 kn),Is (.pointer (some ⟨w1.heap.size,kn,none⟩)),Is (.int .i64 o),Is (.pointer (some ⟨mb,0,none⟩)),Is (.int .i64 m5.next),Is (.int .i64 a),Is (.int .i64 c),WJ (ZE C mb bv m5) a c,WO (ZE C mb bv m5) o m5.next a c]
    (by repeat (first | exact trivial | refine⟨fun h=>absurd rfl h,?_⟩ | refine⟨fun _=>Is.stableT _ _,?_⟩ | refine⟨fun _=>Any.stableT _,?_⟩ | refine⟨fun _=>WJ.stableT _ _ (fun q e=>.inl (.inl e)),?_⟩ | refine⟨fun _=>WO.stableT _ _ _ _ (fun q e=>.inl (.inl e)),?_⟩)) (by repeat (first | exact trivial | refine⟨Is.stable _,?_⟩ | refine⟨Any.stable,?_⟩ | refine⟨WJ.stable _ _ _,?_⟩ | refine⟨WO.stable _ _ _ _ _,?_⟩)) hD.out ⟨?_,?_,?_,?_,?_,?_,?_,?_,?_,?_,?_,trivial⟩ ?_
   rotate_right
   ·intro vs w20 ht hd hk;revert hk;refine zs0 ?_;intro hk
    obtain⟨q9,hi,hj,hp⟩:WO (ZE C mb bv m5) o m5.next a c (vs 10) w20:=hk.2.2.2.2.2.2.2.2.2.2.1;simp only[hi];have HQ:=hid (And.intro hj hp);have he:=hid (hd.two zaJ);clear hk hd ht hi hj hp;go_wp2_with fail
    refine (Yz he.out.1 ((SM5.out.mv he.out.2).mono zaJ) b (by rw[he.out.2.len,MV5.out.len];exact HB.out) ⟨o,m5.next,0,[a,c],_,0⟩ (Zan (m:={ m5 with next:=m5.next+1 }) HQ.out.1 HQ.out.2) (Y6 ⟨hW,hV⟩ ⟨zaK,by show a<m5.next+1;omega⟩ ⟨zaK,by show c<m5.next+1;omega⟩ ⟨zaK,by show m5.next<m5.next+1;omega⟩)).mono ?_;rintro e w22 ⟨m22,⟨rfl,hB⟩,hz,mv22⟩;have hP:=hid hz;have MV22:=hid (MV5.out.trans (he.out.2.trans mv22));clear hz mv22 hB;go_wp2
    go_end0
    exact⟨_,rfl,hP.out,MV22.out.more⟩
   all_goals
    intro p vs w20 Hm Hn ht hd hk;revert hk;refine zs1 ?_;intro hk
   iterate 4
    ·exact ky
   ·exact zK
   ·exact ky
   ·obtain rfl:p=0:=zaK
    have he:=hid hd;clear hk hd;go_wp2_with fail
    refine (Vo (he.out.one rfl).1 ⟨zaK,by have:=SM5.out.2.1;omega⟩).mono ?_;rintro e w21 ⟨rfl,hA,mv21,t21⟩;have HP:=zH (FrPh C mb bv sv l w5 m5 w1.heap.size #[.int .i64 2,.int .i64 2,.int .i64 3,.int .i64 4,.int .i64 5,.int .i64 6,.int .i64 7,.int .i64 8,.int .i64 9,.int .i64 10,.int .i64 12,.int .i64 11] 208 1 w21) ⟨fun e=>absurd e zaJ,fun _=>⟨hA,Mv.since (he.out.one rfl).2 mv21⟩,mv21.heap he.out.box OB5.out.2,fun q hq=>Nat.lt_of_lt_of_le (he.out.lt q hq) mv21.turn.size⟩
    exact jR
   iterate 2
    ·exact ky
   ·have hH:¬ (ZE C mb bv m5) w20.heap.size:=fun e=>absurd (hd.lt _ e) (Nat.lt_irrefl _)
    have hh:=(Since.refl w20).alloc (.cells #[.int .i64 a,.int .i64 c] 3);exact jj
   ·obtain⟨q9,hi,hj,hp⟩:WJ (ZE C mb bv m5) a c (vs 9) w20:=hk.2.2.1;exact jg
 ·go_wp2_with fail
  refine (YC H1.out (SM1.out.mono zaJ) b zad).mono ?_;rintro e w2 ⟨m2,⟨a,rfl,hM,hK⟩,h2,mv2⟩;have H2:=hid h2;have MV2:=hid (MV1.out.trans mv2);have SM2:=hid (SM1.out.mv mv2);have nx2:=mv2.next.1;clear h2 mv2;go_wp2_with fail
  refine (YC H2.out (SM2.out.mono zaJ) b zae).mono ?_;rintro e w3 ⟨m3,⟨c,rfl,hJ,hI⟩,h3,mv3⟩;have H3:=hid h3;have MV3:=hid (MV2.out.trans mv3);have SM3:=hid (SM2.out.mv mv3);have nx3:=mv3.next.1;clear h3 mv3;go_wp2_with fail
  refine (Yt H3.out ⟨zaK,by have:=SM3.out.2.1;omega⟩).mono ?_;rintro e w4 ⟨m4,⟨rfl,hr⟩,h4,mv4⟩;have H4:=hid h4;have MV4:=hid (MV3.out.trans mv4);have SM4:=hid (SM3.out.mv mv4);have nx4:m3.next+1≤m4.next:=by rw[hr];exact Int.le_refl _
  clear hr;clear h4 mv4;go_wp2_with fail
  have AD4:=zH (Zd _ _ _∧Stays _ _ _) (H4.out.newInts [a,c] #[.int .i64 (a),.int .i64 (c)] rfl 2 rfl zao 3);refine (Calls.since_mk ((Since.refl _).alloc _) (Yz (H4.out.keep ((Since.refl _).alloc _)) (SM4.out.mono zaJ) b zag ⟨13,m3.next,0,[a,c],_,0⟩ AD4.out (Y6 zaJ ⟨zaK,zaK⟩ ⟨zaK,zaK⟩ ⟨zaK,zaK⟩))).mono ?_;rintro e w5 ⟨m5,⟨rfl,hg⟩,h5,mv5⟩;have H5:=hid h5;have MV5:=hid (MV4.out.trans mv5);have SM5:=hid (SM4.out.mv mv5);have nx5:m4.next≤m5.next:=by rw[hg];exact Int.le_refl _
  clear hg;clear h5 mv5;go_wp2_with fail
  go_end0
  refine⟨_,?_,H5.out,MV5.out.more⟩;exact rfl
 ·go_wp2_with fail
  refine (YC H1.out (SM1.out.mono zaJ) b zad).mono ?_;rintro e w2 ⟨m2,⟨a,rfl,hM,hK⟩,h2,mv2⟩;have H2:=hid h2;have MV2:=hid (MV1.out.trans mv2);have SM2:=hid (SM1.out.mv mv2);have nx2:=mv2.next.1;clear h2 mv2;go_wp2_with fail
  refine (ZF H2.out 12 zaJ zam).mono ?_;rintro e w3 ⟨m3,⟨t,rfl,⟨Hj,Hi⟩,hx⟩,h3,mv3⟩;have H3:=hid h3;have MV3:=hid (MV2.out.trans mv3);have SM3:=hid (SM2.out.mv mv3);have nx3:m2.next≤m3.next:=by rw[hx];exact Int.le_refl _
  clear hx;clear h3 mv3;go_wp2_with fail
  refine (Yv H3.out (SM3.out.mono zaJ) b zaf (t) zas).mono ?_;rintro e w4 ⟨m4,⟨c,rfl,hJ,hI⟩,h4,mv4⟩;have H4:=hid h4;have MV4:=hid (MV3.out.trans mv4);have SM4:=hid (SM3.out.mv mv4);have nx4:=mv4.next.1;clear h4 mv4;go_wp2_with fail
  refine (ZF H4.out 3 zaJ (by have:=SM4.out.1;omega)).mono ?_;rintro e w5 ⟨m5,⟨q,rfl,⟨hu,hi⟩,hg⟩,h5,mv5⟩;have H5:=hid h5;have MV5:=hid (MV4.out.trans mv5);have SM5:=hid (SM4.out.mv mv5);have nx5:m4.next≤m5.next:=by rw[hg];exact Int.le_refl _
  clear hg;clear h5 mv5;by_cases hu:0<q
  ·go_wp2_with fail
   refine (ZF H5.out 12 zaJ zan).mono ?_;rintro e w6 ⟨m6,⟨u,rfl,⟨Hw,Hv⟩,hf⟩,h6,mv6⟩;have H6:=hid h6;have MV6:=hid (MV5.out.trans mv6);have SM6:=hid (SM5.out.mv mv6);have nx6:m5.next≤m6.next:=by rw[hf];exact Int.le_refl _
   clear hf;clear h6 mv6;go_wp2_with fail
   refine (Yv H6.out (SM6.out.mono zaJ) b zah (1+u) zas).mono ?_;rintro e w7 ⟨m7,⟨e2,rfl,Hs,Hr⟩,h7,mv7⟩;have H7:=hid h7;have MV7:=hid (MV6.out.trans mv7);have SM7:=hid (SM6.out.mv mv7);have nx7:=mv7.next.1;clear h7 mv7;go_wp2_with fail
   refine (Yt H7.out ⟨zaK,by have:=SM7.out.2.1;omega⟩).mono ?_;rintro e w8 ⟨m8,⟨rfl,hY⟩,h8,mv8⟩;have H8:=hid h8;have MV8:=hid (MV7.out.trans mv8);have SM8:=hid (SM7.out.mv mv8);have nx8:m7.next+1≤m8.next:=by rw[hY];exact Int.le_refl _
   clear hY;clear h8 mv8;go_wp2_with fail
   have AD8:=zH (Zd _ _ _∧Stays _ _ _) (H8.out.newInts [a,e2] #[.int .i64 (a),.int .i64 (e2)] rfl 2 rfl zao 3);refine (Calls.since_mk ((Since.refl _).alloc _) (Yz (H8.out.keep ((Since.refl _).alloc _)) (SM8.out.mono zaJ) b (by rw[MV8.out.len];exact HB.out) ⟨14,m7.next,0,[a,e2],_,0⟩ AD8.out (Y6 zaJ ⟨zaK,zaK⟩ ⟨zaK,zaK⟩ ⟨zaK,zaK⟩))).mono ?_;rintro e w9 ⟨m9,⟨rfl,hX⟩,h9,mv9⟩;have H9:=hid h9;have MV9:=hid (MV8.out.trans mv9);have SM9:=hid (SM8.out.mv mv9);have nx9:m8.next≤m9.next:=by rw[hX];exact Int.le_refl _
   clear hX;clear h9 mv9;go_wp2_with fail
   go_end0
   refine⟨_,?_,H9.out,MV9.out.more⟩;exact rfl
  ·obtain rfl:q=0:=zaK
   go_wp2_with fail
   refine (Yt H5.out ⟨zaK,by have:=SM5.out.2.1;omega⟩).mono ?_;rintro e w6 ⟨m6,⟨rfl,hf⟩,h6,mv6⟩;have H6:=hid h6;have MV6:=hid (MV5.out.trans mv6);have SM6:=hid (SM5.out.mv mv6);have nx6:m5.next+1≤m6.next:=by rw[hf];exact Int.le_refl _
   clear hf;clear h6 mv6;go_wp2_with fail
   have AD6:=zH (Zd _ _ _∧Stays _ _ _) (H6.out.newInts [a,c] #[.int .i64 (a),.int .i64 (c)] rfl 2 rfl zao 3);refine (Calls.since_mk ((Since.refl _).alloc _) (Yz (H6.out.keep ((Since.refl _).alloc _)) (SM6.out.mono zaJ) b zah ⟨14,m5.next,0,[a,c],_,0⟩ AD6.out (Y6 zaJ ⟨zaK,zaK⟩ ⟨zaK,zaK⟩ ⟨zaK,zaK⟩))).mono ?_;rintro e w7 ⟨m7,⟨rfl,hF⟩,h7,mv7⟩;have H7:=hid h7;have MV7:=hid (MV6.out.trans mv7);have SM7:=hid (SM6.out.mv mv7);have nx7:m6.next≤m7.next:=by rw[hF];exact Int.le_refl _
   clear hF;exact jB
 ·go_wp2_with fail
  refine (QR H1.out (SM1.out.mono zaJ) b zad false).mono ?_;exact qd
 ·go_wp2_with fail
  refine (QR H1.out (SM1.out.mono zaJ) b zad true).mono ?_;exact qd
 ·go_wp2_with fail
  obtain⟨w2,hn⟩:∃ x,x=w1.alloc (.cells #[] 3):=⟨_,rfl⟩
  rw[←hn];have hh:Since w1 w2:=by rw[hn];exact (Since.refl _).alloc _
  have He:w2.heap.size=w1.heap.size+1:=by rw[hn];simp
  obtain⟨B,hN⟩:∃ B,B=w1.heap.size:=⟨_,rfl⟩
  obtain⟨m2,hm⟩:∃ x,x=m1:=⟨_,rfl⟩
  have hT:MkOk (CV C (.slice (some ⟨w1.heap.size,0,none⟩) 0 0)) mb bv sv l m2 w2:=by
   rw[hm];refine H1.out.swapC (Zb.since (S:=fun _=>False) hh) (fun q _ e=>e.elim) ?_;rintro q (hq|hq)
   ·exact⟨.inl hq,by have:=(H1.out.aside q hq).1;omega⟩
   ·cases hq;exact⟨.inr (Nat.le_refl _),by show w1.heap.size<w2.heap.size;omega⟩
  have hU:HeapIs w2 w1.heap.size #[] 3∧¬ Own mb bv m2 w1.heap.size:=⟨by rw[hn];exact HeapIs.new _ _ _,fun h1=>absurd (H1.out.ltOwn (by rw[←hm];exact h1)) (Nat.lt_irrefl _)⟩;have H2:=hid hT;have OB2:=hid hU;have MV2:=hid (MV1.out.keep hh);have SM2:=SM1;have hO:=hid (fun q (hq:C q)=>(H1.out.aside q hq).1)
  have Hb:=hid MV1.out.turn.size;rw[←hm]at MV2 SM2;rw[←hN]at H2 OB2 hO Hb;rw[←hN];clear hn hh hT hU hm hN He;have nx2:0≤m2.next:=H2.out.next0;refine (ZF H2.out 5 zaJ zam).mono ?_;rintro e w3 ⟨m3,⟨cn,rfl,⟨Hu,Ht⟩,hx⟩,h3,mv3⟩;have H3:=hid h3;have MV3:=hid (MV2.out.trans mv3);have SM3:=hid (SM2.out.mv mv3);have nx3:m2.next≤m3.next:=by rw[hx];exact Int.le_refl _
  clear hx;have OB3:=hid (mv3.carry OB2.out);clear h3 mv3;obtain⟨cnt,rfl⟩:∃ n:Nat,cn=n:=⟨cn.toNat,zaK⟩
  have h0:Qj C mb bv sv l w m0 B 0 (.slice (some ⟨B,0,none⟩) 0 0) [] m3 w3:=⟨H3.out,MV3.out.more,⟨rfl,.inr ⟨B,0,#[],rfl,Nat.le_refl _,OB3.out.1,Nat.le_refl _,Nat.zero_le _,rfl,rfl⟩⟩,rfl,fun y hy=>(by cases hy),by have:=OB3.out.1.lt;omega⟩
  have Ho:=hid h0;clear h0;go_wp2_with fail
  go_loopw [12,14] (fun av i wr=>∃ (t:Nat) (v:Value) (xs:List Int) (mt:Zm),t≤cnt∧av=v∧i=.int .i64 t∧Qj C mb bv sv l w m0 B t v xs mt wr) (fun _ i _=>cnt-(intOf i).toNat)
  case atStart=>exact⟨0,_,[],m3,Nat.zero_le _,rfl,rfl,Ho.out⟩
  case round =>
   obtain⟨t,v,xs,mt,ht,rfl,rfl,hL⟩:=hrel;obtain⟨va,vc,hv⟩:=Ze hL.own;rw[hL.len]at hv;subst hv;have HL:=hid hL;clear hL;by_cases Hy:t<cnt
   ·go_wp2_with fail
    refine (YC HL.out.ok ((SM0.out.mv HL.out.mv zaK zaK zaK).mono zaJ) b (by rw[HL.out.mv.len];exact HB.out)).mono ?_;rintro e wa ⟨ma,⟨y,rfl,Hg,Hf⟩,ha,mva⟩;have hG:=Zg HL.out.own mva.turn (fun q hq e=>(HL.out.ok.aside q (.inr hq)).2 e)
    have HA:=hid ha;have MVA:=hid mva;have Hc:=hid hG;clear ha mva hG;go_wp2_with (refine Zl (base:=B) .i64 rfl _ _ 22 rfl 3 (.int .i64 0) 8 underlying22 Tryz.info3 rfl zaJ (.slice va t vc) _ xs [y] rfl rfl (Zv Hc.out ((Since.refl _).alloc _)) (Ym _ _ _) (by rw[HL.out.len];simp;omega) (by have:=HL.out.base;have:=MVA.out.turn.size;simp;omega) ?_;intro v6 w6 hw hS hE;obtain⟨a6,c6,hR⟩:=Ze hw;rw[show (xs++[y]).length=t+1 from by rw[List.length_append,HL.out.len];rfl]at hR;subst hR;have HN:=hid (HL.out.next HA.out MVA.out ⟨Hg,Hf⟩ hO.out Hb.out hw hS hE);clear hw hS hE)
    go_roundw
    case rel=>exact⟨t+1,_,_,_,zaK,rfl,by go_num,HN.out⟩
    case measure=>simp[intOf];omega
   ·obtain rfl:cnt=t:=zaK
    obtain⟨w4,Hh⟩:∃ x,x=wr:=⟨_,rfl⟩
    subst Hh;have hC:MkOk C mb bv sv l mt w4:=HL.out.ok.swapC (Zb.refl (fun _=>False) _) (fun q _ e=>e.elim) fun q hq=>⟨.inl (.inl hq),(HL.out.ok.aside q (.inl hq)).1⟩
    have Ha:Zd w4 (.slice va cnt vc) xs∧Stays (ZE C mb bv mt) w4 (.slice va cnt vc):=⟨ZB HL.out.own,fun q hq=>⟨fun e=>by
     rcases e with e|e
     ·exact (HL.out.ok.aside q (.inr hq)).2 e
     ·have:=hO.out q e;have:=(World.ownsRow.lt HL.out.own q hq).1;omega,(HL.out.ok.aside q (.inr hq)).1⟩⟩
    have hQ:xs.length≤4:=by rw[HL.out.len];omega
    obtain⟨m4,hr⟩:∃ x,x=mt:=⟨_,rfl⟩
    subst hr;have H4:=hid hC;have AV4:=hid Ha;have XL:=hid hQ;have IN4:=hid HL.out.inr;have MV4:=hid (HL.out.mv.more (a':=22) (n':=4) (i':=4) zaK zaK zaK);have SM4:=hid ((SM0.out.mv MV4.out).mono (k':=15) zaJ);have nx4:0≤m4.next:=hC.next0;clear hC Ha hQ;go_wp2_with fail
    refine (Yt H4.out ⟨zaK,by have:=SM4.out.2.1;omega⟩).mono ?_;rintro e w5 ⟨m5,⟨rfl,hg⟩,h5,mv5⟩;have nx5:m4.next+1≤m5.next:=by rw[hg];exact Int.le_refl _
    have AV5:=zH (Zd _ _ _∧Stays _ _ _) ⟨mv5.nums AV4.out.1 AV4.out.2,mv5.stays AV4.out.2⟩;have H5:=hid h5;have MV5:=hid (MV4.out.trans mv5);have SM5:=hid (SM4.out.mv mv5);clear h5 mv5 hg;go_wp2_with fail
    refine (ZF H5.out 5 zaJ zan).mono ?_;rintro e w6 ⟨m6,⟨im,rfl,⟨Hq,Hp⟩,hf⟩,h6,mv6⟩;have nx6:m5.next≤m6.next:=by rw[hf];exact Int.le_refl _
    have AV6:=zH (Zd _ _ _∧Stays _ _ _) ⟨mv6.nums AV5.out.1 AV5.out.2,mv6.stays AV5.out.2⟩;have H6:=hid h6;have MV6:=hid (MV5.out.trans mv6);have SM6:=hid (SM5.out.mv mv6);clear h6 mv6 hf;go_wp2_with fail
    refine (Yz H6.out (SM6.out.mono zaJ) b zah ⟨17,m4.next,0,xs,.slice va cnt vc,im⟩ AV6.out (Zdd zas (fun a ha=>by have:=IN4.out a ha;omega) ⟨zaK,zaK⟩ XL.out)).mono ?_;rintro e w7 ⟨m7,⟨rfl,hF⟩,h7,mv7⟩;have H7:=hid h7;have MV7:=hid (MV6.out.trans mv7);clear h7 mv7 hF;go_wp2
    go_end0
    exact⟨_,rfl,H7.out,MV7.out.more⟩
 ·go_wp2_with fail
  refine (YC H1.out (SM1.out.mono zaJ) b zad).mono ?_;rintro e w2 ⟨m2,⟨a,rfl,hM,hK⟩,h2,mv2⟩;have H2:=hid h2;have MV2:=hid (MV1.out.trans mv2);have SM2:=hid (SM1.out.mv mv2);have nx2:=mv2.next.1;clear h2 mv2;go_wp2_with fail
  refine (YC H2.out (SM2.out.mono zaJ) b zae).mono ?_;rintro e w3 ⟨m3,⟨c,rfl,hJ,hI⟩,h3,mv3⟩;have H3:=hid h3;have MV3:=hid (MV2.out.trans mv3);have SM3:=hid (SM2.out.mv mv3);have nx3:=mv3.next.1;clear h3 mv3;go_wp2_with fail
  refine (Yt H3.out ⟨zaK,by have:=SM3.out.2.1;omega⟩).mono ?_;rintro e w4 ⟨m4,⟨rfl,hr⟩,h4,mv4⟩;have H4:=hid h4;have MV4:=hid (MV3.out.trans mv4);have SM4:=hid (SM3.out.mv mv4);have nx4:m3.next+1≤m4.next:=by rw[hr];exact Int.le_refl _
  clear hr;clear h4 mv4;go_wp2_with fail
  refine (Yt H4.out ⟨zaK,by have:=SM4.out.2.1;omega⟩).mono ?_;rintro e w5 ⟨m5,⟨rfl,hg⟩,h5,mv5⟩;have H5:=hid h5;have MV5:=hid (MV4.out.trans mv5);have SM5:=hid (SM4.out.mv mv5);have nx5:m4.next+1≤m5.next:=by rw[hg];exact Int.le_refl _
  clear hg;clear h5 mv5;go_wp2_with fail
  have AD5:=zH (Zd _ _ _∧Stays _ _ _) (H5.out.newInts [a,c] #[.int .i64 (a),.int .i64 (c)] rfl 2 rfl zao 3);refine (Calls.since_mk ((Since.refl _).alloc _) (Yz (H5.out.keep ((Since.refl _).alloc _)) (SM5.out.mono zaJ) b (by rw[MV5.out.len];exact HB.out) ⟨18,m3.next,m4.next,[a,c],_,0⟩ AD5.out (Zdc ⟨zaK,zaK⟩ ⟨zaK,zaK⟩ ⟨zaK,zaK⟩ ⟨zaK,zaK⟩ zaK))).mono ?_;rintro e w6 ⟨m6,⟨rfl,hf⟩,h6,mv6⟩;have H6:=hid h6;have MV6:=hid (MV5.out.trans mv6);have SM6:=hid (SM5.out.mv mv6);have nx6:m5.next≤m6.next:=by rw[hf];exact Int.le_refl _
  clear hf;clear h6 mv6;exact jW
 ·go_wp2_with fail
  refine (Wh H1.out (by have:=SM1.out.1;omega)).mono ?_;rintro e w2 ⟨m2,⟨c,rfl,hc,hm⟩,h2,mv2⟩;have H2:=hid h2;have MV2:=hid (MV1.out.trans mv2);have SM2:=hid (SM1.out.mv mv2);have nx2:m1.next≤m2.next:=by rw[hm];exact Int.le_refl _
  clear hm;clear h2 mv2;go_wp2_with fail
  refine (Yv H2.out (SM2.out.mono zaJ) b zae (c) hc).mono ?_;rintro e w3 ⟨m3,⟨r,rfl,Hk,Hx⟩,h3,mv3⟩;have H3:=hid h3;have MV3:=hid (MV2.out.trans mv3);have SM3:=hid (SM2.out.mv mv3);have nx3:=mv3.next.1;clear h3 mv3;go_wp2_with fail
  go_end0
  refine⟨_,?_,H3.out,MV3.out.more⟩;exact rfl
end
def skel (b:Zt):List YW × Value × YP:=(b.phis,b.phv,b.term)
def Y7 (N:Int) (n:Nat) (t:YP):Prop:=
 In32 t.imm∧(∀ a∈t.args,0≤a∧a<N)∧(∀ x∈t.to,1≤x∧x<(n:Int)) ∧
 ((t.kind=1∧t.args.length=0∧t.to.length=1)∨(t.kind=2∧t.args.length=1∧t.to.length=2)∨(t.kind=3∧t.args.length=1∧2≤t.to.length∧t.to.length≤65)∨(t.kind=4∧t.args.length≤1∧t.to.length=0)∨(t.kind=5∧t.args.length=0∧t.to.length=0))
theorem Y7.mono {N N':Int} {n : Nat} {t : YP} (h:Y7 N n t) (hN:N≤N'):Y7 N' n t:=⟨h.1,fun a ha=>by have:=h.2.1 a ha;omega,h.2.2⟩
section
variable {C : Nat→Prop} {mb:Nat} {bv sv:Value} {l : List Int} {m m':Zm} {w w':World} {b bb:Nat} {k : Zt}
theorem Xw {q o n:Nat} {cs:Array Value} {T : TypeId} (h:HeapIs w q cs T) (ho:o+n≤cs.size):w.there q o n:=fun i hi=>by
 refine⟨?_,h.frozen _⟩
 rw[h.cell]
 rw[Array.getElem?_eq_getElem zaK];rfl
theorem MkOk.setTerm (h:MkOk C mb bv sv l m w) (hb:m.bks[b]? = some k) (he:bv.ownBlock=some bb) (t:YP) (ht:Ww w t∧Stays (ZE C mb bv m) w t.argsv∧Stays (ZE C mb bv m) w t.tov) :
  MkOk C mb bv sv l { m with bks:=m.bks.set b { k with term:=t } } (w.setCells bb (b*6+2) [.int .i64 t.kind,t.argsv,t.tov,.int .i32 t.imm])∧Zb (fun q=>q=bb) w (w.setCells bb (b*6+2) [.int .i64 t.kind,t.argsv,t.tov,.int .i32 t.imm]) ∧
   (∀ q,Own mb bv { m with bks:=m.bks.set b { k with term:=t } } q→Own mb bv m q∨w.heap.size≤q):=by
 have hf:=List.mem_of_getElem? hb;have ha:=h.each k hf;have hB:=h.bbAt he;have e:w.setCells bb (b*6+2) [.int .i64 t.kind,t.argsv,t.tov,.int .i32 t.imm]=(((w.setCell ⟨bb,b*6+2,none⟩ (.int .i64 t.kind)).setCell ⟨bb,b*6+3,none⟩ t.argsv).setCell ⟨bb,b*6+4,none⟩ t.tov).setCell ⟨bb,b*6+5,none⟩ (.int .i32 t.imm):=rfl;have n1:Yb w k.inv k.inv:=fun q hq=>.inl hq
 have n2:Yb w k.phv k.phv:=fun q hq=>.inl hq
 have hS:=W4 (mb:=mb) (bv:=bv) (k':={ k with term:=t }) hb n1 n2;have tc:Zb (fun q=>q=bb) w (w.setCells bb (b*6+2) [.int .i64 t.kind,t.argsv,t.tov,.int .i32 t.imm]):=by
  rw[e];exact ((((Zb.refl (fun q=>q=bb) w).setCell (p:=⟨bb,b*6+2,none⟩) rfl _).setCell (p:=⟨bb,b*6+3,none⟩) rfl _).setCell (p:=⟨bb,b*6+4,none⟩) rfl _).setCell (p:=⟨bb,b*6+5,none⟩) rfl _
 have hg:Own mb bv m bb:=.inr (.inl he);have hd:∀ {y : Value},Stays (ZE C mb bv m) w y→∀ q,y.ownBlock=some q→¬ q=bb:=fun hy q hq e=>(hy q hq).1 (.inl (e ▸ hg))
 have hc:∀ {y : Value},Stays (ZE C mb bv m) w y→Stays (ZE C mb bv { m with bks:=m.bks.set b { k with term:=t } }) (w.setCells bb (b*6+2) [.int .i64 t.kind,t.argsv,t.tov,.int .i32 t.imm]) y:=fun hy=>hy.mono (Ys hS) tc.size
 refine⟨h.upd hb he (tc.mono fun q _ e=>.inl e) ?_ ⟨?_,?_,fun x hx=>?_,fun x hx=>?_,⟨ht.1.1.turn tc (hd ht.2.1),ht.1.2.turn tc (hd ht.2.2)⟩,hc ht.2.1,hc ht.2.2⟩ n1 n2 fun x hx=>h.good.ins k hf x hx,tc,hS⟩
 ·rw[e];have h1:=hB.set (b*6+2) (.int .i64 t.kind);rw[List.setIfInBounds_toArray,Xn fbcells 6 ZZ 2 (.int .i64 t.kind) k { k with term:={ k.term with kind:=t.kind } } zaJ rfl _ _ hb]at h1;have hh:b<m.bks.length:=(List.getElem?_eq_some_iff.1 hb).1;have g:∀ x:Zt,(m.bks.set b x)[b]? = some x:=fun x=>by rw[List.getElem?_set_self hh]
  have h2:=h1.set (b*6+3) t.argsv;rw[List.setIfInBounds_toArray,Xn fbcells 6 ZZ 3 t.argsv { k with term:={ k.term with kind:=t.kind } } { k with term:={ k.term with kind:=t.kind,argsv:=t.argsv } } zaJ rfl _ _ (g _),List.set_set]at h2;have h3:=h2.set (b*6+4) t.tov;rw[List.setIfInBounds_toArray,Xn fbcells 6 ZZ 4 t.tov { k with term:={ k.term with kind:=t.kind,argsv:=t.argsv } } { k with term:={ k.term with kind:=t.kind,argsv:=t.argsv,tov:=t.tov } } zaJ rfl _ _ (g _),List.set_set]at h3;have h4:=h3.set (b*6+5) (.int .i32 t.imm);rw[List.setIfInBounds_toArray,Xn fbcells 6 ZZ 5 (.int .i32 t.imm) { k with term:={ k.term with kind:=t.kind,argsv:=t.argsv,tov:=t.tov } } { k with term:=t } zaJ rfl _ _ (g _),List.set_set]at h4;exact h4
 ·exact Zg ha.phis tc fun q hq e=>Zn ha.phis hB zaJ (e ▸ hq)
 ·exact Zg ha.ins tc fun q hq e=>Zn ha.ins hB zaJ (e ▸ hq)
 ·exact jA
 ·obtain⟨h3,h4⟩:=ha.arg x hx;exact⟨h3.turn tc (hd h4),hc h4⟩
end
end Go.Proofs.YtimpddecdodddaaGreat
