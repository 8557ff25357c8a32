import Derived.Test.YtmhojfpidedjeaaGreatDoorTp10
namespace Go.Proofs.YtmhojfpidedjeaaGreatDoor
open Go.RowKit
set_option linter.unusedVariables false
def needsB (l:List Oper) (j i:Nat):Bool:=match l[j]? with | some o=>o.after.toList.any (fun e=>e.on==i&&Region.binds .any e) | none=>false
theorem Zee {l : List Oper} {j i:Nat} {listed:Array Bool} (h:needsB l j i=true) (hc:WL l listed) (hj:listed.getD j false=true):listed.getD i false=true:=by
 unfold needsB at h
 cases ho:l[j]? with
 | none=>rw[ho]at h;cases h
 | some o =>
  rw[ho]at h;obtain⟨e,he,hb⟩:=List.any_eq_true.1 h;simp only[Bool.and_eq_true,beq_iff_eq]at hb;have:=hc j o ho hj e (by simpa using he) hb.2
  rwa [hb.1]at this
def RRt (p p2:Nat) (R R2:World→World→Prop) (k:Nat):World→World→Prop:=cond (Nat.beq k p||Nat.beq k p2) R R2
theorem Zb5 {p p2:Nat} {R R2:World→World→Prop} (h:∀ a b,R2 a b→R a b) (k:Nat) {a b:World} (hk:RRt p p2 R R2 k a b):R a b:=by
 unfold RRt at hk
 cases hb:(Nat.beq k p||Nat.beq k p2) with
 | true=>rw[hb]at hk;exact hk
 | false=>rw[hb]at hk;exact h _ _ hk
theorem Zg0 {p p2:Nat} {R R2:World→World→Prop} {k : Nat} (hn:k≠p) (ha:k≠p2) {a b:World} (hk:RRt p p2 R R2 k a b):R2 a b:=by
 unfold RRt at hk
 cases hb:(Nat.beq k p||Nat.beq k p2) with
 | true=>rcases Bool.or_eq_true _ _ |>.mp hb with h | h;exact absurd (Nat.eq_of_beq_eq_true h) hn;exact absurd (Nat.eq_of_beq_eq_true h) ha
 | false=>rw[hb]at hk;exact hk
def Ks (pv p2:Nat) (R R2:World→World→Prop) (Ph:Nat→World→Prop) (P:Program) (ops:Array Oper) (l:List Oper) (Q:Exit→Act→World→Prop) (F:Nat→Value→World→Prop) (a0:Act) (w0:World):List Oper→List Nat→List Nat→List Nat→Nat→Prop
 | o::r,lo::los,hi::his,inc::incs,k=>(∀ (p:Nat) (vs:Nat→Value) (w:World),lo≤p→p≤hi→R w0 w→Ph p w→Zh F vs w o.after.toList →
   wpList P ops (Zbe (RRt pv p2 R R2 k) Ph Q F k (p+inc) o.dst (putAll l 0 vs a0) w) [o] (putAll l 0 vs a0) w)∧Ks pv p2 R R2 Ph P ops l Q F a0 w0 r los his incs (k+1)
 | _,_,_,_,_=>True
theorem Qg {pv p2:Nat} {R R2:World→World→Prop} {Ph:Nat→World→Prop} {P : Program} {ops:Array Oper} {l0:List Oper} {Q : Exit→Act→World→Prop} {F : Nat→Value→World→Prop} {a0:Act} {w0:World}:∀ (l:List Oper) (los ha incs:List Nat) (k:Nat),Ks pv p2 R R2 Ph P ops l0 Q F a0 w0 l los ha incs k→los.length=l.length→ha.length=l.length→incs.length=l.length→∀ (i:Nat) (o:Oper),l[i]? = some o→ops[k+i]? = some o →
  ∀ (p:Nat) (vs:Nat→Value) (w:World),los.getD i 0≤p→p≤ha.getD i 0→R w0 w→Ph p w→Zh F vs w o.after.toList→∀ K:Act→World→Prop,(∀ a' w',QU (RRt pv p2 R R2 (k+i)) Ph F (k+i) (p+incs.getD i 0) o.dst (putAll l0 0 vs a0) w a' w'→K a' w') →
   wpOp P ops Q (k+i) K (putAll l0 0 vs a0) w
 | [],_,_,_,_,_,_,_,_,_,_,h,_=>by cases h
 | _::_,[],_,_,_,_,h,_,_,_,_,_,_=>by simp at h
 | _::_,_::_,[],_,_,_,_,h,_,_,_,_,_=>by simp at h
 | _::_,_::_,_::_,[],_,_,_,_,h,_,_,_,_=>by simp at h
 | p::r,lo::los,hi::ha,inc::incs,k,h,_,_,_,0,o,ho,hall=>by
  obtain rfl:p=o:=by simpa using ho
  intro q vs w hc hd hw hb hk K hK
  have:=h.1 q vs w hc hd hw hb hk
  unfold wpOp
  rw[hall]
  simp only[wpList]at this
  show if _ then _ else _
  split
  ·rename_i hwant
   rw[if_pos hwant]at this
   rcases this with this|⟨h1,h2⟩
   ·exact .inl (Oper.wp_turn (fun _ _ _ h=>h) (fun h=>h) (Oper.wp_mono (fun a' w' h=>hK a' w' h) this))
   ·exact .inr ⟨h1,h2⟩
  ·rename_i hwant
   rw[if_neg hwant]at this
   exact hK _ _ this
 | p::r,lo::los,hi::ha,inc::incs,k,h,h1,h2,h3,i+1,o,ho,hall=>by
  have:=Qg r los ha incs (k+1) h.2 (by simpa using h1) (by simpa using h2) (by simpa using h3) i o (by simpa using ho) (by rw[show k+1+i=k+(i+1) from by omega];exact hall)
  rw[show k+1+i=k+(i+1) from by omega]at this
  exact this
section
variable {P : Program} {Q : Exit→Act→World→Prop} {l t0:List Oper} {F : Nat→Value→World→Prop} {a0:Act} {w0:World} {pv p2:Nat} {R R2:World→World→Prop} {Ph:Nat→World→Prop} {keys los his incs:List Nat}
theorem Zcw (hnd:needsB (l++t0) pv p2=true) (hD:boundsKT (l++t0) l.length keys los his incs=true) (Hi:∀ a b c,R a b→R b c→R a c) (hF:∀ i v w w',i≠pv→F i v w→R w w'→F i v w') (Hj:∀ i v w w',F i v w→R2 w w'→F i v w') (hP:∀ a b,R2 a b→R a b) (hd:ZR l=true) (hb:ZU (l++t0) 0=true) (hf:YU (l++t0) l.length=true)
  (hs:Ks pv p2 R R2 Ph P (l++t0).toArray l Q F a0 w0 l los his incs 0)
  (he:∀ vs w,R w0 w→Ph keys.length w→Zc F vs w 0 l.length→wpList P (l++t0).toArray Q t0 (putAll l 0 vs a0) w) :
  ∀ (fuel:Nat) (listed:Array Bool) (vs:Nat→Value) (w:World),listed.size=(l++t0).length→((List.range (l++t0).length).filter fun i=>!listed.getD i true).length≤fuel→R w0 w→Ph (ZJ keys listed) w→WL (l++t0) listed →
   (∀ i,i<l.length→listed.getD i true=true→F i (vs i) w)→(∀ i,l.length≤i→i<(l++t0).length→listed.getD i true=false)→wpAny P .any (l++t0).toArray Q fuel listed (putAll l 0 vs a0) w:=by
 unfold boundsKT at hD;simp only[Bool.and_eq_true,beq_iff_eq,decide_eq_true_eq,List.all_eq_true]at hD;obtain⟨⟨⟨⟨hO,hS⟩,hL⟩,h4⟩,hJ⟩:=hD;have Ha:l.length≤(l++t0).length:=by simp
 have hT:∀ (fuel:Nat) (listed:Array Bool) (vs:Nat→Value) (w:World),listed.size=(l++t0).length→((List.range (l++t0).length).filter fun i=>!listed.getD i true).length≤fuel→R w0 w→Ph (ZJ keys listed) w→(∀ i,i<l.length→listed.getD i true=true) →
   (∀ i,i<l.length→listed.getD i true=true→F i (vs i) w)→(∀ i,l.length≤i→i<(l++t0).length→listed.getD i true=false)→wpAny P .any (l++t0).toArray Q fuel listed (putAll l 0 vs a0) w:=by
  intro fuel listed vs w ht hn hw hh hE hk hq;have hX:ZJ keys listed=keys.length:=by
   unfold ZJ;rw[List.countP_eq_length];intro k hk;have hQ:=hJ k hk;rw[ZK (by omega)];exact hE k hQ
  rw[hX]at hh;refine Jn (n0:=l.length) (t0:=t0) hb (by simp) hf t0 0 rfl (by simp) fuel listed _ w ht hn (fun i hi=>hE i (by omega)) (fun i hi hu=>hq i (by omega) hu) ?_
  exact he vs w hw hh (Xj F vs w _ 0 fun i _ hi=>hk i (by omega) (hE i (by omega)))
 have h8:∀ i o,i<l.length→(l++t0)[i]? = some o→l[i]? = some o:=fun i o hi h=>by rwa [List.getElem?_append_left hi]at h
 intro fuel;induction fuel with
 | zero =>
  intro listed vs w ht hn hw hh hm hk hq;refine hT 0 listed vs w ht hn hw hh (fun i hi=>?_) hk hq
  cases hl:listed.getD i true with
  | true=>rfl
  | false =>
   exfalso
   have:i∈(List.range (l++t0).length).filter fun i=>!listed.getD i true:=by
    rw[List.mem_filter];exact⟨List.mem_range.2 (by omega),by simp[hl]⟩
   have:=List.length_pos_of_mem this;omega
 | succ fuel ih =>
  intro listed vs w ht hn hw hh hm hk hq;by_cases hz:∀ i,i<l.length→listed.getD i true=true
  ·exact hT (fuel+1) listed vs w ht hn hw hh hz hk hq
  ·refine⟨fun hr=>?_,fun i hi=>?_⟩
   ·exfalso
    apply hz
    have all:∀ (n i:Nat),i<n→i<l.length→listed.getD i true=true:=by
     intro n;induction n with
     | zero=>intro i h;omega
     | succ n ihn =>
      intro i h1 h2
      cases hl:listed.getD i true with
      | true=>rfl
      | false =>
       exfalso
       have:i∈Region.ready .any (l++t0).toArray listed:=by
        rw[mem_ready];have ho:(l++t0)[i]? = some l[i]:=by rw[List.getElem?_append_left h2];exact List.getElem?_eq_getElem h2
        refine⟨hl,l[i],by simpa using ho,fun e hV hD=>?_⟩;have hA:=Z8 (l++t0) 0 hb i l[i] ho e hV hD;rw[ZK (by omega)];exact ihn e.on (by omega) (by omega)
       rw[hr]at this
       cases this
    exact fun i hi=>all (i+1) i (by omega) hi
   ·rw[mem_ready]at hi;obtain⟨h1,o,ho,hy⟩:=hi;have hc:(l++t0)[i]? = some o:=by simpa using ho
    have h6:i<(l++t0).length:=(List.getElem?_eq_some_iff.1 hc).1;have hA:i<l.length:=by
     by_cases h:i<l.length
     ·exact h
     ·exfalso
      apply hz
      intro j hj;have:=XE hf hm hc (by omega) hy (i:=j) (by omega)
      rwa [ZK (by omega)]at this
    have hY:=h8 i o hA hc;have hW:Zh F vs w o.after.toList:=by
     refine Wk F vs w _ fun e hV hN=>?_
     have hU:e∈o.after:=by simpa using hV
     have Hk:=Z8 (l++t0) 0 hb i o hc e hU hN;have hI:e.on<l.length:=by omega
     refine hk e.on hI ?_;rw[←ZK (by omega)];exact hy e hU hN
    have hu:listed.getD i false=false:=by rw[ZK (by omega)];exact h1
    have h9:los.getD i 0≤ZJ keys listed:=by
     rw[hO];simp only[List.getD_eq_getElem?_getD,List.getElem?_map,List.getElem?_range hA,Option.map_some,Option.getD_some];exact List.countP_mono_left fun k _ hC=>Yw hm _ _ _ hC o hc hy
    have Hf:ZJ keys listed≤his.getD i 0:=by
     rw[hS];simp only[List.getD_eq_getElem?_getD,List.getElem?_map,List.getElem?_range hA,Option.map_some,Option.getD_some];refine List.countP_mono_left fun k Hb hC=>?_
     simp only[Bool.and_eq_true,Bool.not_eq_true',beq_eq_false_iff_ne];refine⟨?_,fun e=>by rw[e,hu]at hC;cases hC⟩
     cases Hg:XY (l++t0) (l++t0).length i k with
     | false=>rfl
     | true =>
      exfalso
      have hQ:k<(l++t0).length:=Nat.lt_of_lt_of_le (hJ k Hb) Ha;have hZ:(l++t0)[k]? = some (l++t0)[k]:=List.getElem?_eq_getElem hQ;have:=Yw hm _ _ _ Hg _ hZ (hm k _ hZ hC);rw[hu]at this;cases this
    have h7:incs.getD i 0=if keys.contains i then 1 else 0:=by
     rw[hL];simp only[List.getD_eq_getElem?_getD,List.getElem?_map,List.getElem?_range hA,Option.map_some,Option.getD_some]
    have hH:=Qg l los his incs 0 hs (by rw[hO];simp) (by rw[hS];simp) (by rw[hL];simp) i o hY (by simpa using hc) (ZJ keys listed) vs w h9 Hf hw hh hW;simp only[Nat.zero_add]at hH;refine hH _ fun a' w' ⟨v,Hh,hv,hG,hg⟩=>?_
    subst Hh;have e:=Xw v l 0 vs a0 i o hY hd;rw[Nat.zero_add]at e;rw[←e];refine ih (listed.setIfInBounds i true) (upd vs i v) w' (by simpa using ht) ?_ (Hi _ _ _ hw (Zb5 hP i hG)) ?_ ?_ ?_ ?_
    ·have e2:((List.range (l++t0).length).filter fun j=>!(listed.setIfInBounds i true).getD j true)=((List.range (l++t0).length).filter fun j=>!listed.getD j true).filter fun j=>j != i:=by
      rw[List.filter_filter];refine List.filter_congr fun j hj=>?_
      by_cases ha:j=i
      ·subst ha;have He:j<listed.size:=by omega
       simp[Array.getD_eq_getD_getElem?,He]
      ·rw[getD_set_ne _ (Ne.symm ha)];simp[ha]
     rw[e2];have h5:i∈(List.range (l++t0).length).filter fun j=>!listed.getD j true:=by
      rw[List.mem_filter];exact⟨List.mem_range.2 h6,by simp[h1]⟩
     have:=(List.length_filter_lt_length_iff_exists (p:=fun j=>j != i) (l:=(List.range (l++t0).length).filter fun j=>!listed.getD j true)).2 ⟨i,h5,by simp⟩
     omega
    ·rw[h7]at hg;by_cases hM:i∈keys
     ·rw[WI (by omega) hu h4 hM];rw[if_pos (by simpa using hM)]at hg;exact hg
     ·rw[WH hM];rw[if_neg (by simpa using hM)]at hg;exact hg
    ·intro j p hp hK x hx h3;by_cases ha:j=i
     ·subst ha;have:=hc.symm.trans hp;cases this
      exact getD_set_true (hy x hx h3)
     ·rw[getD_set_ne _ (Ne.symm ha)]at hK;exact getD_set_true (hm j p hp hK x hx h3)
    ·intro j hj hB;by_cases ha:j=i
     ·subst ha;rw[Wh];exact hv
     ·rw[Xb _ _ ha];rw[getD_set_ne _ (Ne.symm ha)]at hB;by_cases h0:i=pv
      ·subst h0;exact hF _ _ _ _ ha (hk j hj hB) (Zb5 hP i hG)
      ·by_cases hR:i=p2
       ·refine hF _ _ _ _ (fun Hc=>?_) (hk j hj hB) (Zb5 hP i hG);subst Hc hR;have hI:=Zee hnd hm (by rw[ZK (by omega)];exact hB);rw[hu]at hI;cases hI
       ·exact Hj _ _ _ _ (hk j hj hB) (Zg0 h0 hR hG)
    ·intro j hj hK;rw[getD_set_ne _ (by omega)];exact hq j hj hK
end
theorem Za6 {P : Program} {Q : Exit→Act→World→Prop} {all:List Oper} {a0:Act} {w0:World} {id:Nat} (n pv p2:Nat) (keys los hg incs:List Nat) (S:Nat→Prop) (Ph:Nat→World→Prop) (hm:P.follows .mixedOrders=true) (hnd:needsB all pv p2=true)
  (hd:ZR (all.take n)=true) (hb:ZU all 0=true) (hf:YU all n=true) (hn:n≤all.length) (hk:boundsKT all n keys los hg incs=true) (Fs:List (Value→World→Prop)) (hF:AllBut S pv Fs 0) (hp:Wt Fs) (hj:Ph 0 w0.drew)
  (hs:Ks pv p2 (Turn S) Since Ph P all.toArray (all.take n) Q (Zd Fs) a0 w0 (all.take n) los hg incs 0)
  (he:∀ vs w,Turn S w0 w→Ph keys.length w→Zc (Zd Fs) vs w 0 n→wpList P all.toArray Q (all.drop n) (putAll (all.take n) 0 vs a0) w):(Code.region id all.toArray true).wp P Q a0 w0:=by
 refine wp_region_any hm ?_;have hc:(all.take n).length=n:=by rw[List.length_take];omega
 have ha:all.take n++all.drop n=all:=List.take_append_drop n all;have e:=Xc (YA (all.take n) a0) a0 (all.take n) 0 (fun i o d hi hh=>by simp only[YA,Nat.zero_add,hi,Option.bind_some,hh]);have h:=Zcw (hnd:=by rw[ha];exact hnd) (l:=all.take n) (t0:=all.drop n) (P:=P) (Q:=Q) (F:=Zd Fs) (a0:=a0) (w0:=w0) (pv:=pv) (p2:=p2) (R:=Turn S) (R2:=Since) (by rw[ha,hc];exact hk) (fun _ _ _=>Turn.trans) (fun i v w w' hi hv ht=>Jw Fs 0 hF i v w w' (by omega) hv ht) (X9 Fs hp) (fun a b h=>Turn.since h) hd (by rw[ha];exact hb) (by rw[ha,hc];exact hf) (by rw[ha];exact hs) (by rw[ha,hc];exact he)
  all.length (Array.replicate all.length false) (YA (all.take n) a0) { w0 with drawn:=w0.drawn+1 } (by rw[ha];simp) (by rw[ha];exact Nat.le_trans (List.length_filter_le _ _) (by simp)) (Turn.since (Since.refl w0).drew)
  (by
   have:ZJ keys (Array.replicate all.length false)=0:=by
    unfold ZJ;rw[List.countP_eq_zero];intro k _;simp[Array.getD_eq_getD_getElem?,Array.getElem?_replicate];split<;>rfl
   rw[this];exact hj)
  (fun i o ho hl=>by
   have hi:i<all.length:=by rw[←ha];exact (List.getElem?_eq_some_iff.1 ho).1
   simp[Array.getD_eq_getD_getElem?,hi]at hl)
  (fun i hi hl=>by
   have:i<all.length:=by omega
   simp[Array.getD_eq_getD_getElem?,this]at hl)
  (fun i _ hi=>by
   rw[ha]at hi;simp[Array.getD_eq_getD_getElem?,hi])
 rw[e,ha]at h;simpa using h
end Go.Proofs.YtmhojfpidedjeaaGreatDoor
