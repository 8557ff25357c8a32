import Derived.Test.YtmhojfpidedjeaaGreatDoorTp03
import Derived.Test.YtmhojfpidedjeaaGreatDoorTp04
import Derived.Deep.LoopGhost
namespace Go.Proofs.YtmhojfpidedjeaaGreatDoor
open Go.RowKit Go.Lib
def ZfI (R:World→World→Prop) (F:Nat→Value→World→Prop) (i:Nat) (dst:Option Tmp) (a:Act) (w:World) (a':Act) (w':World):Prop:=∃ v,a'=a.put dst v∧F i v w'∧R w w'
def Zhn (R:World→World→Prop) (Q:Exit→Act→World→Prop) (F:Nat→Value→World→Prop) (i:Nat) (dst:Option Tmp) (a:Act) (w:World):Exit→Act→World→Prop
 | .normal,a',w'=>ZfI R F i dst a w a' w'
 | e,a',w'=>Q e a' w'
section
variable {P : Program} {Q : Exit→Act→World→Prop} {l : List Oper} {F : Nat→Value→World→Prop} {a0:Act} {w0:World} {R : World→World→Prop}
end
def Kf (R:World→World→Prop) (P:Program) (ops:Array Oper) (l:List Oper) (Q:Exit→Act→World→Prop) (F:Nat→Value→World→Prop) (a0:Act) (w0:World):List Oper→Nat→Prop
 | [],_=>True
 | o::r,k=>(∀ (vs:Nat→Value) (w:World),R w0 w→Zh F vs w o.after.toList→(∀ j,predB l k j=true→vs j=YA l a0 j) →
   wpList P ops (Zhn R Q F k o.dst (putAll l 0 vs a0) w) [o] (putAll l 0 vs a0) w)∧Kf R P ops l Q F a0 w0 r (k+1)
theorem ZaB {R : World→World→Prop} {P : Program} {ops:Array Oper} {l0:List Oper} {Q : Exit→Act→World→Prop} {F : Nat→Value→World→Prop} {a0:Act} {w0:World}:∀ (l:List Oper) (k:Nat),Kf R P ops l0 Q F a0 w0 l k→∀ (i:Nat) (o:Oper),l[i]? = some o→ops[k+i]? = some o →
  ∀ (vs:Nat→Value) (w:World),R w0 w→Zh F vs w o.after.toList→(∀ j,predB l0 (k+i) j=true→vs j=YA l0 a0 j)→∀ K:Act→World→Prop,(∀ a' w',ZfI R F (k+i) o.dst (putAll l0 0 vs a0) w a' w'→K a' w') →
   wpOp P ops Q (k+i) K (putAll l0 0 vs a0) w
 | [],_,_,_,_,h,_=>by cases h
 | p::r,k,h,0,o,ho,hall=>by
  obtain rfl:p=o:=by simpa using ho
  intro vs w hw hk ha K hK
  have:=h.1 vs w hw hk ha
  unfold wpOp
  rw[hall]
  simp only[wpList]at this
  show if _ then _ else _
  split
  ·rename_i hwant
   rw[if_pos hwant]at this
   rcases this with this|⟨h1,h2⟩
   ·exact .inl (Oper.wp_turn (fun _ _ _ h=>h) (fun h=>h) (Oper.wp_mono (fun a' w' h=>hK a' w' h) this))
   ·exact .inr ⟨h1,h2⟩
  ·rename_i hwant
   rw[if_neg hwant]at this
   exact hK _ _ this
 | p::r,k,h,i+1,o,ho,hall=>by
  have:=ZaB r (k+1) h.2 i o (by simpa using ho) (by rw[show k+1+i=k+(i+1) from by omega];exact hall)
  rw[show k+1+i=k+(i+1) from by omega]at this
  exact this
def YU (all:List Oper) (n:Nat):Bool:=
 (List.range all.length).all fun k=>decide (k<n)||(List.range k).all fun i=>predB all i k||XY all all.length i k
theorem XE {all:List Oper} {n : Nat} (hf:YU all n=true) {listed:Array Bool} (hc:WL all listed) {k : Nat} {o : Oper} (ho:all[k]? = some o) (hk:n≤k) (hp:∀ e∈o.after,Region.binds .any e=true→listed.getD e.on false=true) {i : Nat} (hi:i<k):listed.getD i false=true:=by
 unfold YU at hf;rw[List.all_eq_true]at hf;have h1:=hf k (List.mem_range.2 (List.getElem?_eq_some_iff.1 ho).1);rw[Bool.or_eq_true,decide_eq_true_eq]at h1;rcases h1 with h1|h1
 ·omega
 rw[List.all_eq_true]at h1;have h2:=h1 i (List.mem_range.2 hi);rw[Bool.or_eq_true]at h2;rcases h2 with h2|h2
 ·unfold predB at h2;rw[ho]at h2;simp only[List.any_eq_true,Bool.and_eq_true,beq_iff_eq]at h2;obtain⟨e,he,ha,hb⟩:=h2;rw[←ha];exact hp e (by simpa using he) hb
 ·exact Yw hc _ _ _ h2 o ho hp
section
variable {P : Program} {Q : Exit→Act→World→Prop} {l t0:List Oper} {F : Nat→Value→World→Prop} {a0:Act} {w0:World} {R : World→World→Prop}
theorem ZK {listed:Array Bool} {i : Nat} (h:i<listed.size):listed.getD i false=listed.getD i true:=by
 rw[Array.getD_eq_getD_getElem?,Array.getD_eq_getD_getElem?,Array.getElem?_eq_getElem h];rfl
theorem Jn {all:List Oper} {n0:Nat} (hb:ZU all 0=true) (hv:all.drop n0=t0) (hf:YU all n0=true):∀ (t:List Oper) (k:Nat),t0.drop k=t→n0+k≤all.length →
  ∀ (fuel:Nat) (listed:Array Bool) (a:Act) (w:World),listed.size=all.length→((List.range all.length).filter fun i=>!listed.getD i true).length≤fuel →
   (∀ i,i<n0+k→listed.getD i true=true)→(∀ i,n0+k≤i→i<all.length→listed.getD i true=false)→wpList P all.toArray Q t a w→wpAny P .any all.toArray Q fuel listed a w:=by
 intro t;induction t with
 | nil =>
  intro k hk hB fuel listed a w hx hC h1 h2 hw;have hE:all.length≤n0+k:=by
   have:(t0.drop k).length=0:=by rw[hk];rfl
   rw[←hv,List.length_drop,List.length_drop]at this;omega
  have hr:Region.ready .any all.toArray listed=[]:=by
   rw[List.eq_nil_iff_forall_not_mem];intro i hi;rw[mem_ready]at hi;obtain⟨h3,o,ho,_⟩:=hi;have hd:i<all.length:=by simpa using (Array.getElem?_eq_some_iff.1 ho).1
   rw[h1 i (by omega)]at h3
   cases h3
  cases fuel with
  | zero=>exact⟨hr,hw⟩
  | succ fuel=>exact⟨fun _=>hw,fun i hi=>by rw[hr]at hi;cases hi⟩
 | cons o r ih =>
  intro k hk hB fuel listed a w hx hC h1 h2 hw;have hg:all[n0+k]? = some o:=by
   have e:(t0.drop k)[0]? = some o:=by rw[hk];rfl
   rw[←hv,List.drop_drop,List.getElem?_drop]at e;simpa using e
  have hd:n0+k<all.length:=(List.getElem?_eq_some_iff.1 hg).1;have hm:n0+k∈(List.range all.length).filter fun i=>!listed.getD i true:=by
   rw[List.mem_filter];exact⟨List.mem_range.2 hd,by rw[h2 _ (Nat.le_refl _) hd];rfl⟩
  have hD:=List.length_pos_of_mem hm
  cases fuel with
  | zero=>omega
  | succ fuel =>
   refine⟨fun hr=>?_,fun i hi=>?_⟩
   ·exfalso
    have:n0+k∈Region.ready .any all.toArray listed:=by
     rw[mem_ready];refine⟨h2 _ (Nat.le_refl _) hd,o,by simpa using hg,fun e he hu=>?_⟩;have:=Z8 all 0 hb (n0+k) o hg e he hu;rw[ZK (by omega)];exact h1 _ (by omega)
    rw[hr]at this
    cases this
   ·rw[mem_ready]at hi;obtain⟨h3,p,hp,hy⟩:=hi;have hl:all[i]? = some p:=by simpa using hp
    have hG:i<all.length:=(List.getElem?_eq_some_iff.1 hl).1;have hH:n0+k≤i:=by
     by_cases hz:i<n0+k
     ·rw[h1 i hz]at h3;cases h3
     ·omega
    obtain rfl:i=n0+k:=by
     by_cases he:i=n0+k
     ·exact he
     ·exfalso
      have hc:WL all listed:=by
       intro j q hq hn e he hu;have hs:j<all.length:=(List.getElem?_eq_some_iff.1 hq).1;have hI:=Z8 all 0 hb j q hq e he hu;rw[ZK (by omega)]at hn ⊢;by_cases hF:j<n0+k
       ·exact h1 _ (by omega)
       ·rw[h2 j (by omega) hs]at hn;cases hn
      have:=XE hf hc hl (by omega) hy (i:=n0+k) (by omega);rw[ZK (by omega),h2 _ (Nat.le_refl _) hd]at this
      cases this
    have:=hl.symm.trans hg
    cases this
    have hh:∀ a' w',wpList P all.toArray Q r a' w'→wpAny P .any all.toArray Q fuel (listed.setIfInBounds (n0+k) true) a' w':=by
     intro a' w' hA;refine ih (k+1) (by rw[←List.drop_drop,hk];rfl) (by omega) fuel _ a' w' (by simpa using hx) ?_ ?_ ?_ hA
     ·have e2:((List.range all.length).filter fun j=>!(listed.setIfInBounds (n0+k) true).getD j true)=((List.range all.length).filter fun j=>!listed.getD j true).filter fun j=>j != n0+k:=by
       rw[List.filter_filter];refine List.filter_congr fun j hj=>?_
       by_cases ha:j=n0+k
       ·subst ha;have ht:n0+k<listed.size:=by omega
        simp[Array.getD_eq_getD_getElem?,ht]
       ·rw[getD_set_ne _ (Ne.symm ha)];simp[ha]
      rw[e2];have:=(List.length_filter_lt_length_iff_exists (p:=fun j=>j != n0+k) (l:=(List.range all.length).filter fun j=>!listed.getD j true)).2 ⟨n0+k,hm,by simp⟩
      omega
     ·intro j hj;by_cases ha:j=n0+k
      ·subst ha;have ht:n0+k<listed.size:=by omega
       simp[Array.getD_eq_getD_getElem?,ht]
      ·rw[getD_set_ne _ (Ne.symm ha)];exact h1 j (by omega)
     ·intro j hj hs;rw[getD_set_ne _ (by omega)];exact h2 j (by omega) hs
    unfold wpOp;rw[hp];simp only[wpList]at hw;show if _ then _ else _
    split
    ·rename_i hwant
     rw[if_pos hwant]at hw;rcases hw with hw|⟨g1,g2⟩
     ·exact .inl (Oper.wp_mono hh hw)
     ·exact .inr ⟨g1,g2⟩
    ·rename_i hwant
     rw[if_neg hwant]at hw;exact hh _ _ hw
theorem ZdC (hY:∀ a b c,R a b→R b c→R a c) (hF:∀ i v w w',F i v w→R w w'→F i v w') (hd:ZR l=true) (hb:ZU (l++t0) 0=true) (hf:YU (l++t0) l.length=true)
  (hs:Kf R P (l++t0).toArray l Q F a0 w0 l 0)
  (he:∀ vs w,R w0 w→Zc F vs w 0 l.length→wpList P (l++t0).toArray Q t0 (putAll l 0 vs a0) w) :
  ∀ (fuel:Nat) (listed:Array Bool) (vs:Nat→Value) (w:World),listed.size=(l++t0).length→((List.range (l++t0).length).filter fun i=>!listed.getD i true).length≤fuel→R w0 w→WL (l++t0) listed→(∀ j,j<l.length→listed.getD j true=false→vs j=YA l a0 j) →
   (∀ i,i<l.length→listed.getD i true=true→F i (vs i) w)→(∀ i,l.length≤i→i<(l++t0).length→listed.getD i true=false)→wpAny P .any (l++t0).toArray Q fuel listed (putAll l 0 vs a0) w:=by
 have h0:l.length≤(l++t0).length:=by simp
 have hE:∀ (fuel:Nat) (listed:Array Bool) (vs:Nat→Value) (w:World),listed.size=(l++t0).length→((List.range (l++t0).length).filter fun i=>!listed.getD i true).length≤fuel→R w0 w→(∀ i,i<l.length→listed.getD i true=true) →
   (∀ i,i<l.length→listed.getD i true=true→F i (vs i) w)→(∀ i,l.length≤i→i<(l++t0).length→listed.getD i true=false)→wpAny P .any (l++t0).toArray Q fuel listed (putAll l 0 vs a0) w:=by
  intro fuel listed vs w hq hn hw hI hk hm;refine Jn (n0:=l.length) (t0:=t0) hb (by simp) hf t0 0 rfl (by simp) fuel listed _ w hq hn (fun i hi=>hI i (by omega)) (fun i hi hT=>hm i (by omega) hT) ?_
  exact he vs w hw (Xj F vs w _ 0 fun i _ hi=>hk i (by omega) (hI i (by omega)))
 have hR:∀ i o,i<l.length→(l++t0)[i]? = some o→l[i]? = some o:=fun i o hi h=>by rwa [List.getElem?_append_left hi]at h
 intro fuel;induction fuel with
 | zero =>
  intro listed vs w hq hn hw hB hy hk hm;refine hE 0 listed vs w hq hn hw (fun i hi=>?_) hk hm
  cases hl:listed.getD i true with
  | true=>rfl
  | false =>
   exfalso
   have:i∈(List.range (l++t0).length).filter fun i=>!listed.getD i true:=by
    rw[List.mem_filter];exact⟨List.mem_range.2 (by omega),by simp[hl]⟩
   have:=List.length_pos_of_mem this;omega
 | succ fuel ih =>
  intro listed vs w hq hn hw hB hy hk hm;by_cases ht:∀ i,i<l.length→listed.getD i true=true
  ·exact hE (fuel+1) listed vs w hq hn hw ht hk hm
  ·refine⟨fun hr=>?_,fun i hi=>?_⟩
   ·exfalso
    apply ht
    have all:∀ (n i:Nat),i<n→i<l.length→listed.getD i true=true:=by
     intro n;induction n with
     | zero=>intro i h;omega
     | succ n ihn =>
      intro i h1 h2
      cases hl:listed.getD i true with
      | true=>rfl
      | false =>
       exfalso
       have:i∈Region.ready .any (l++t0).toArray listed:=by
        rw[mem_ready];have ho:(l++t0)[i]? = some l[i]:=by rw[List.getElem?_append_left h2];exact List.getElem?_eq_getElem h2
        refine⟨hl,l[i],by simpa using ho,fun e hH hW=>?_⟩;have hM:=Z8 (l++t0) 0 hb i l[i] ho e hH hW;rw[ZK (by omega)];exact ihn e.on (by omega) (by omega)
       rw[hr]at this
       cases this
    exact fun i hi=>all (i+1) i (by omega) hi
   ·rw[mem_ready]at hi;obtain⟨h1,o,ho,hu⟩:=hi;have hc:(l++t0)[i]? = some o:=by simpa using ho
    have hQ:i<(l++t0).length:=(List.getElem?_eq_some_iff.1 hc).1;have hM:i<l.length:=by
     by_cases h:i<l.length
     ·exact h
     ·exfalso
      apply ht
      intro j hj;have:=XE hf hB hc (by omega) hu (i:=j) (by omega)
      rwa [ZK (by omega)]at this
    have hL:=hR i o hM hc;have hJ:Zh F vs w o.after.toList:=by
     refine Wk F vs w _ fun e hH hC=>?_
     have hG:e∈o.after:=by simpa using hH
     have hZ:=Z8 (l++t0) 0 hb i o hc e hG hC;have hS:e.on<l.length:=by omega
     refine hk e.on hS ?_;rw[←ZK (by omega)];exact hu e hG hC
    have hz:=ZaB l 0 hs i o hL (by simpa using hc) vs w hw hJ (by
     intro j hj;rw[Nat.zero_add]at hj;unfold predB at hj
     cases hA:l[j]? with
     | none=>rw[hA]at hj;cases hj
     | some oj =>
      rw[hA]at hj;simp only[List.any_eq_true,Bool.and_eq_true,beq_iff_eq]at hj;obtain⟨e,he,hU,hV⟩:=hj;have hh:j<l.length:=(List.getElem?_eq_some_iff.1 hA).1;have hO:(l++t0)[j]? = some oj:=by rw[List.getElem?_append_left hh];exact hA
      refine hy j hh ?_;rw[←ZK (by omega)]
      cases hg:listed.getD j false with
      | false=>rfl
      | true =>
       have:=hB j oj hO hg e (by simpa using he) hV;rw[hU,ZK (by omega),h1]at this;cases this)
    rw[Nat.zero_add]at hz;refine hz _ fun a' w' ⟨v,hX,hv,hK⟩=>?_
    subst hX;have e:=Xw v l 0 vs a0 i o hL hd;rw[Nat.zero_add]at e;rw[←e];refine ih (listed.setIfInBounds i true) (upd vs i v) w' (by simpa using hq) ?_ (hY _ _ _ hw hK) ?_ ?_ ?_ ?_
    ·have e2:((List.range (l++t0).length).filter fun j=>!(listed.setIfInBounds i true).getD j true)=((List.range (l++t0).length).filter fun j=>!listed.getD j true).filter fun j=>j != i:=by
      rw[List.filter_filter];refine List.filter_congr fun j hj=>?_
      by_cases ha:j=i
      ·subst ha;have hD:j<listed.size:=by omega
       simp[Array.getD_eq_getD_getElem?,hD]
      ·rw[getD_set_ne _ (Ne.symm ha)];simp[ha]
     rw[e2];have hP:i∈(List.range (l++t0).length).filter fun j=>!listed.getD j true:=by
      rw[List.mem_filter];exact⟨List.mem_range.2 hQ,by simp[h1]⟩
     have:=(List.length_filter_lt_length_iff_exists (p:=fun j=>j != i) (l:=(List.range (l++t0).length).filter fun j=>!listed.getD j true)).2 ⟨i,hP,by simp⟩
     omega
    ·intro j p hp hh x hx hN;by_cases ha:j=i
     ·subst ha;have:=hc.symm.trans hp;cases this
      exact getD_set_true (hu x hx hN)
     ·rw[getD_set_ne _ (Ne.symm ha)]at hh;exact getD_set_true (hB j p hp hh x hx hN)
    ·intro j hj hg;by_cases ha:j=i
     ·subst ha;have hD:j<listed.size:=by omega
      simp[Array.getD_eq_getD_getElem?,hD]at hg
     ·rw[Xb _ _ ha];rw[getD_set_ne _ (Ne.symm ha)]at hg;exact hy j hj hg
    ·intro j hj hg;by_cases ha:j=i
     ·subst ha;rw[Wh];exact hv
     ·rw[Xb _ _ ha];rw[getD_set_ne _ (Ne.symm ha)]at hg;exact hF _ _ _ _ (hk j hj hg) hK
    ·intro j hj hh;rw[getD_set_ne _ (by omega)];exact hm j hj hh
end
theorem QZ {P : Program} {Q : Exit→Act→World→Prop} {all:List Oper} {a0:Act} {w0:World} {id:Nat} (n:Nat) (R:World→World→Prop) (hh:∀ a b c,R a b→R b c→R a c) (hj:R w0 w0.drew) (hm:P.follows .mixedOrders=true)
  (hd:ZR (all.take n)=true) (hb:ZU all 0=true) (hf:YU all n=true) (hn:n≤all.length) (Fs:List (Value→World→Prop)) (hF:∀ i v w w',Zd Fs i v w→R w w'→Zd Fs i v w')
  (hs:Kf R P all.toArray (all.take n) Q (Zd Fs) a0 w0 (all.take n) 0)
  (he:∀ vs w,R w0 w→Zc (Zd Fs) vs w 0 n→wpList P all.toArray Q (all.drop n) (putAll (all.take n) 0 vs a0) w):(Code.region id all.toArray true).wp P Q a0 w0:=by
 refine wp_region_any hm ?_;have hc:(all.take n).length=n:=by rw[List.length_take];omega
 have ha:all.take n++all.drop n=all:=List.take_append_drop n all;have e:=Xc (YA (all.take n) a0) a0 (all.take n) 0 (fun i o d hi hg=>by simp only[YA,Nat.zero_add,hi,Option.bind_some,hg]);have h:=ZdC (l:=all.take n) (t0:=all.drop n) (P:=P) (Q:=Q) (F:=Zd Fs) (a0:=a0) (w0:=w0) hh hF hd (by rw[ha];exact hb) (by rw[ha,hc];exact hf) (by rw[ha];exact hs) (by rw[ha,hc];exact he)
  all.length (Array.replicate all.length false) (YA (all.take n) a0) { w0 with drawn:=w0.drawn+1 } (by rw[ha];simp) (by rw[ha];exact Nat.le_trans (List.length_filter_le _ _) (by simp)) hj
  (fun i o ho hl=>by
   have hi:i<all.length:=by rw[←ha];exact (List.getElem?_eq_some_iff.1 ho).1
   simp[Array.getD_eq_getD_getElem?,hi]at hl)
  (fun _ _ _=>rfl)
  (fun i hi hl=>by
   have:i<all.length:=by omega
   simp[Array.getD_eq_getD_getElem?,this]at hl)
  (fun i _ hi=>by
   rw[ha]at hi;simp[Array.getD_eq_getD_getElem?,hi])
 rw[e,ha]at h;simpa using h
theorem Zb {P : Program} {Q : Exit→Act→World→Prop} {all:List Oper} {a0:Act} {w0:World} {id:Nat} (n:Nat) (hm:P.follows .mixedOrders=true)
  (hd:ZR (all.take n)=true) (hb:ZU all 0=true) (hf:YU all n=true) (hn:n≤all.length) (Fs:List (Value→World→Prop)) (hF:Wt Fs)
  (hs:Kf Since P all.toArray (all.take n) Q (Zd Fs) a0 w0 (all.take n) 0)
  (he:∀ vs w,Since w0 w→Zc (Zd Fs) vs w 0 n→wpList P all.toArray Q (all.drop n) (putAll (all.take n) 0 vs a0) w):(Code.region id all.toArray true).wp P Q a0 w0:=
 QZ n Since (fun _ _ _=>Since.trans) (Since.refl _).drew hm hd hb hf hn Fs (X9 Fs hF) hs he
set_option linter.unusedVariables false
set_option maxHeartbeats 4000000
set_option maxRecDepth 100000
theorem BuF.keep {B b:Nat} {p : Value} {l : List Value} {w w':World} (h:BuF B b p l w) (s:Since w w'):BuF B b p l w':=by
 obtain⟨hB,v,hb,ha,hc⟩:=h;refine⟨hB,v,(Below.block s b (Array.getElem?_eq_some_iff.1 hb).1).trans hb,⟨ha.1,?_⟩,hc⟩;rcases ha.2 with h|⟨g,cap,cur,fz,h1,h2,h3,h4⟩
 ·exact .inl h
 ·exact .inr ⟨g,cap,cur,fz,h1,h2,(Below.block s g (Array.getElem?_eq_some_iff.1 h3).1).trans h3,h4⟩
theorem Bu.keep {B b:Nat} {l : Bs} {w w':World} (h:Bu B b l w) (s:Since w w'):Bu B b l w':=h.elim (fun h=>.inl (BuF.keep h s)) (fun h=>.inr (BuF.keep h s))
theorem Bu.lt {B b:Nat} {l : Bs} {w : World} (h:Bu B b l w):b<w.heap.size:=h.elim (fun h=>h.lt) (fun h=>h.lt)
theorem ZbX (a b:Bs):Lib.byteCells (a++b)=Lib.byteCells a++Lib.byteCells b:=by unfold Lib.byteCells;exact List.map_append
theorem Kc {B b:Nat} {l : Bs} {s : ByteArray} {w : World} (h:BuF B b (.pointer (some ⟨b,0,none⟩)) (Lib.byteCells l++Lib.strCells s) w) {m : Bs} (hm:l++s.data.toList=m):Bu B b m w:=by
 subst hm;exact .inr (by rw[ZbX];exact h)
theorem Zgw {B b:Nat} {l : Bs} {c : UInt8} {n : Int} (hn:n=c.toNat) {w : World} (h:BuF B b (.pointer (some ⟨b,0,none⟩)) (Lib.byteCells l++[.int .u8 n]) w) {m : Bs} (hm:l++[c]=m):Bu B b m w:=by
 subst hm;subst hn;exact .inr (by rw[ZbX];exact h)
theorem Kept.since {B b:Nat} {w w':World} (s:Since w w') (hB:B≤w.heap.size):Kept B b w w':=
 ⟨Below.mono s hB,fun k o hk _ _=>(Below.block s k (Array.getElem?_eq_some_iff.1 hk).1).trans hk⟩
theorem Kept.size {B b:Nat} {w w':World} (h:Kept B b w w'):w.heap.size≤w'.heap.size:=h.below.size
theorem Zq (s:ByteArray):s.data.toList.length=s.size:=Array.length_toList
theorem Z3 {α:Type} (f:α→Bs) (l:List α) (k:Nat):((l.take k).flatMap f).length≤(l.flatMap f).length:=by
 have:l.flatMap f=(l.take k).flatMap f++(l.drop k).flatMap f:=by rw[←List.flatMap_append,List.take_append_drop]
 rw[this,List.length_append];omega
theorem ZI {α:Type} (f:α→Bs) {l : List α} {k : Nat} {x : α} (h:l[k]? = some x):(l.take (k+1)).flatMap f=(l.take k).flatMap f++f x:=by
 rw[List.take_add_one,h,List.flatMap_append];simp
theorem Kept.heap {B b k:Nat} {w w':World} {cs:Array Value} {T : TypeId} {fz:Nat × Nat} (h:Kept B b w w') (hk:w.heap[k]? = some (.cells cs T fz)) (hb:k≠b) (hT:T≠5):w'.heap[k]? = some (.cells cs T fz):=
 h.others k _ hk (fun e=>hb (by cases e;rfl)) (fun c fz e=>by cases e;exact hT rfl)
theorem Qe {P : Program} {t : TypeId} {u : TypeDesc} (h:P.underlying t=some u) (hn:∀ m,u≠.interface m) (v:Value) (xT:TypeId) (w:World):(Instr.typeAssert (.iface t v) xT t true).run P w=.ok (.tuple #[v,.bool true]) w:=by
 cases u<;>first | exact absurd rfl (hn _) | simp[Instr.typeAssert,run_underlying h]
theorem VA {P : Program} {s t:TypeId} {u : TypeDesc} {z : Value} (h:P.underlying t=some u) (hn:∀ m,u≠.interface m) (hz:∀ w,(zeroValue t).run P w=.ok z w) (ha:s≠t) (v:Value) (xT:TypeId) (w:World):(Instr.typeAssert (.iface s v) xT t true).run P w=.ok (.tuple #[z,.bool false]) w:=by
 cases u<;>first | exact absurd rfl (hn _) | simp[Instr.typeAssert,run_underlying h,ha,hz]
inductive It where
 | ns (v:Value) (l:List Int)
 | n (x:Int)
 | w (x:Int)
 | s (x:ByteArray)
def itc:It→List Value
 | .ns v _=>[.iface 32 v]
 | .n x=>[.iface 3 (.int .i64 x)]
 | .w x=>[.iface 21 (.int .i32 x)]
 | .s x=>[.iface 9 (.string x)]
def ZO (x:Int):Prop:=-9223372036854775808≤x∧x≤9223372036854775807
def WX (w:World):It→Prop
 | .ns v l=>Zm w v l∧∀ x∈l,ZO x
 | .n x=>ZO x
 | .w x=>In32W x
 | .s _=>True
def itS:It→Bs
 | .ns _ l=>allS l
 | .n x=>dS x
 | .w x=>dS x
 | .s x=>32::x.data.toList
abbrev Zbg (w:World) (v:Value) (l:List It):Prop:=RowIn itc 1 WX w v l
theorem Zp {k : IntKind} {w : World} {v : Value} {l : List Int} (h:ZN k w v l):∃ a cap,v=.slice a l.length cap:=by
 rcases h with ⟨_,h1,rfl⟩|⟨b,off,cap,h1,_⟩;iterate 2
  ·exact⟨_,_,h1⟩
theorem V9 {k : IntKind} {w : World} {a : Option Addr} {n cap:Nat} {l : List Int} (h:ZN k w (.slice a n cap) l) {j : Nat} (hj:j<l.length):∃ b off x,a=some ⟨b,off,none⟩∧b<w.heap.size∧l[j]? = some x∧w.cell? ⟨b,off+j,none⟩=some (.int k x):=by
 rcases h with ⟨_,_,h2⟩|⟨b,off,cap',h1,_,_,hb,hc⟩
 ·subst h2;simp at hj
 ·cases h1;exact⟨b,off,_,rfl,hb,List.getElem?_eq_getElem hj,hc j _ (List.getElem?_eq_getElem hj)⟩
theorem RowIn.get {α:Type} {f : α→List Value} {sz:Nat} {p : World→α→Prop} {w : World} {v : Value} {l : List α} (h:RowIn f sz p w v l) {k : Nat} {x : α} (hx:l[k]? = some x):p w x:=by
 rcases h with ⟨_,_,rfl⟩|⟨b,off,cap',_,_,_,_,h5⟩
 ·simp at hx
 ·exact (h5 k x hx).2
structure Ys (w:World):Prop where
 s:LaidS w
 tab : Lib.TabIs Tryz.prog w "strings.asciiSpace" .u8 Lib.asciiSpaceTab
 mx:∃ m,w.cell? ⟨3,0,none⟩=some (.int .i64 m)
theorem Ys.keep {w w':World} (h:Ys w) (hb:Since w w'):Ys w':=by
 obtain⟨h1,h2,m,h3⟩:=h;refine⟨h1.keep hb,TabIs_below (g:=0) (by kernel_rfl) h2 hb,m,?_⟩;rw[hb.cell]
 ·exact h3
 ·exact World.block_lt_of_cell? _ _ h3
theorem Ve (x:Int) (h:ZO x):(dS x).length≤22:=by
 have:=Lib.itoa_length_le x h.1 h.2;unfold dS;simp only[List.length_cons];omega
theorem J0 (x:Int) (h:ZO x):¬ 9223372036854775807<1+(Lib.itoa x).length:=by
 have:=Lib.itoa_length_le x h.1 h.2;omega
def Zbf (B b:Nat) (m:Bs) (w:World) (e:Ending) (w':World):Prop:=e=.returned (.tuple #[])∧Bu B b m w'∧Kept B b w w'
theorem XA (B b:Nat) (l:Bs) (first:ByteArray) (v:Value) (its:List It) (w:World) (hb:Bu B b l w) (hB:B≤w.heap.size) (hR:∀ w',Kept B b w w'→Zbg w' v its) (hL:∀ w',Kept B b w w'→Ys w')
  (hn:l.length+(first.size+(its.flatMap itS).length)≤1000000000000) :
  Calls Tryz.prog 22 #[.pointer (some ⟨b,0,none⟩),.string first,v] w (Zbf B b (l++(first.data.toList++(its.flatMap itS++[10]))) w):=by
 obtain⟨ra,rc,rfl,hF⟩:=RowIn.shape (hR w (Kept.refl _ _ _));unfold maxLen at hF;have HR:=hid hR;have HL:=hid hL;have hS:=hid hn;have hP:=Zq first
 clear hR hL;go_enter Tryz.func22,Tryz.ntmps22
 go_wp2_with fail
 refine (Vg B b (Lib.byteCells l) first w hb (by rw[Lib.byteCells_length];omega) hB).mono ?_
 rintro e w1 ⟨rfl,hC,hy⟩;have hK:=hid (Kc hC rfl);have hI:=hid hy;clear hC hy hb;go_wp2_with fail
 go_loopw [21] (fun i wr=>∃ k:Nat,i=.int .i64 k∧k≤its.length∧Bu B b (l++(first.data.toList++(its.take k).flatMap itS)) wr∧Kept B b w wr) (fun i _=>its.length-(intOf i).toNat)
 case atStart=>exact⟨0,rfl,Nat.zero_le _,by rw[List.take_zero,List.flatMap_nil,List.append_nil];exact hK.out,hI.out⟩
 case round =>
  obtain⟨i,rfl,hi,hb,hk⟩:=hrel;have HB:=hid hb;have HK:=hid hk;have HS:=hid (Nat.le_trans hB hk.size);clear hb hk;by_cases hG:i<its.length
  ·obtain⟨rb,off,x,rfl,hO,hx,hc,hp⟩:=RowIn.at (HR.out _ HK.out) hG;have hc:=hc 0 (by decide);have hl:=hid hx;have hr:=Z3 itS its i;have hh:=Z3 itS its (i+1);rw[ZI itS hx,List.length_append]at hh;rw[Nat.mul_one,Nat.add_zero]at hc;clear hx
   cases x with
   | ns z y =>
    replace hc:wr.cell? ⟨rb,off+i,none⟩=some (.iface 32 _):=hc
    have h0:=Qe Tryz.underlying32 (fun m e=>by cases e);obtain⟨hz,hD⟩:=hp;obtain⟨za,zc,rfl⟩:=Zp hz;have hE:=ZN.len hz;unfold maxLen at hE;have hM:=hid hD;have hJ:=hid hh;clear hz hD hh hr;go_wp2_with fail
    go_loopw [31] (fun q ws=>∃ j:Nat,q=.int .i64 j∧j≤y.length∧Bu B b ((l++(first.data.toList++(its.take i).flatMap itS))++allS (y.take j)) ws∧Kept B b w ws) (fun q _=>y.length-(intOf q).toNat)
    case atStart=>exact⟨0,rfl,Nat.zero_le _,by rw[List.take_zero];unfold allS;rw[List.flatMap_nil,List.append_nil];exact HB.out,HK.out⟩
    case round =>
     obtain⟨j,rfl,hj,hb,hk⟩:=hrel;have HB:=hid hb;have HK:=hid hk;have HS:=hid (Nat.le_trans hB hk.size);clear hb hk;by_cases hH:j<y.length
     ·have hv:=RowIn.get (HR.out _ HK.out) hl.out;obtain⟨yb,yo,u,rfl,hN,hu,hQ⟩:=V9 hv.1 hH;have HX:=hid (hM.out u (List.mem_of_getElem? hu));have hA:=Z3 dS y (j+1);rw[ZI dS hu,List.length_append]at hA;have HU:=hid hu;have HN:=zH (((l++(first.data.toList++(its.take i).flatMap itS))++allS (y.take j)).length+(⟨#[32]⟩++⟨(Lib.itoa u).toArray⟩:ByteArray).size≤140737488355328) (by rw[←Zq (⟨#[32]⟩++_)];show _+(dS u).length≤_;have:=hJ.out;simp only[List.length_append];simp only[itS,allS]at this ⊢;omega)
      have ht:=J0 u HX.out;clear hv hA hu;go_wp2_with fail
      refine Zb 6 rfl (by decide +kernel) (by decide +kernel) (by decide +kernel) (by decide)
       [Is (.pointer (some ⟨b,0,none⟩)),Is (.pointer (some ⟨b,0,none⟩)),Is (.pointer (some ⟨b,0,none⟩)),Is (.int .i64 u),Is (.string ⟨(Lib.itoa u).toArray⟩),Is (.string (⟨#[32]⟩++⟨(Lib.itoa u).toArray⟩))]
       (by repeat (first | exact trivial | refine⟨Is.stable _,?_⟩ | refine⟨Any.stable,?_⟩ | refine⟨ZV.stable _ _,?_⟩)) ⟨?_,?_,?_,?_,?_,?_,trivial⟩ ?_
      rotate_right
      ·intro vs w1 hs hk;simp only[List.take,List.drop,putAll,Act.put,Zc,Zd,Is,List.setIfInBounds_toArray,List.set_cons_zero,List.set_cons_succ,Nat.reduceAdd]at hk ⊢;try simp only[hk]
       have hq:=hid (HB.out.keep hs);have ho:=hid (HK.out.trans (Kept.since hs HS.out));have hm:=hid (Nat.le_trans HS.out hs.size);clear hs hk;go_wp2_with fail
       refine (Vg B b (Lib.byteCells ((l++(first.data.toList++(its.take i).flatMap itS))++allS (y.take j))) _ w1 hq.out (by rw[Lib.byteCells_length];exact HN.out) hm.out).mono ?_
       rintro e w2 ⟨rfl,he,hd⟩;have ha:=hid (Kc he (m:=((l++(first.data.toList++(its.take i).flatMap itS))++allS (y.take j))++dS u) rfl)
       have hf:=hid (ho.out.trans hd);clear he hd;go_wp2
       go_roundw
       case rel=>exact⟨j+1,by go_num,by omega,by unfold allS at ha ⊢;rw[ZI dS HU.out];rw[←List.append_assoc];exact ha.out,hf.out⟩
       case measure=>simp[intOf];omega
      all_goals
       intro vs w1 hs hk _;simp only[List.take,putAll,Act.put,Zh,Zd,Is,List.setIfInBounds_toArray,List.set_cons_zero,List.set_cons_succ,Nat.reduceAdd]at hk ⊢;try simp only[hk]
      iterate 4
       ·go_wp2
        exact⟨_,rfl,rfl,.refl _⟩
      ·go_wp2_with fail
       refine (Tryz.strconv_Itoa u HX.out.1 HX.out.2 _ (HL.out _ (HK.out.trans (Kept.since hs HS.out))).s.tab).mono ?_;rintro e w2 ⟨rfl,k,os,rfl⟩;have HG:=hid (WD w1 k os);generalize Sort.grow (w1.drewN k) os=w2 at *;go_wp2
       exact⟨_,rfl,rfl,HG.out⟩
      ·go_wp2
       exact⟨_,rfl,rfl,.refl _⟩
     ·obtain rfl:y.length=j:=by omega
      have ha:=hid HB.out;have hf:=hid HK.out;rw[List.take_length]at ha;have ha:=zH (Bu B b ((l++(first.data.toList++(its.take i).flatMap itS))++itS (.ns (.slice za y.length zc) y)) _) ha.out
      go_wp2
      go_roundw
      case rel=>exact⟨i+1,by go_num,by omega,by rw[ZI itS hl.out];simpa only [List.append_assoc]using ha.out,hf.out⟩
      case measure=>simp[intOf];omega
   | n y =>
    replace hc:wr.cell? ⟨rb,off+i,none⟩=some (.iface 3 _):=hc
    have h0:=VA (s:=3) Tryz.underlying32 (fun m e=>by cases e) Tryz.zeroValue32 (by decide);have h1:=Qe Tryz.underlying3 (fun m e=>by cases e);have HX:=hid hp;have HN:=zH ((l++(first.data.toList++(its.take i).flatMap itS)).length+(⟨#[32]⟩++⟨(Lib.itoa y).toArray⟩:ByteArray).size≤140737488355328) (by rw[←Zq (⟨#[32]⟩++_)];show _+(dS y).length≤_;simp only[List.length_append];simp only[itS]at hh;omega)
    have ht:=J0 y HX.out;clear hp hh hr;go_wp2_with fail
    refine Zb 6 rfl (by decide +kernel) (by decide +kernel) (by decide +kernel) (by decide)
     [Is (.pointer (some ⟨b,0,none⟩)),Is (.pointer (some ⟨b,0,none⟩)),Is (.pointer (some ⟨b,0,none⟩)),Is (.int .i64 y),Is (.string ⟨(Lib.itoa y).toArray⟩),Is (.string (⟨#[32]⟩++⟨(Lib.itoa y).toArray⟩))]
     (by repeat (first | exact trivial | refine⟨Is.stable _,?_⟩ | refine⟨Any.stable,?_⟩ | refine⟨ZV.stable _ _,?_⟩)) ⟨?_,?_,?_,?_,?_,?_,trivial⟩ ?_
    rotate_right
    ·intro vs w1 hs hk;simp only[List.take,List.drop,putAll,Act.put,Zc,Zd,Is,List.setIfInBounds_toArray,List.set_cons_zero,List.set_cons_succ,Nat.reduceAdd]at hk ⊢;try simp only[hk]
     have hq:=hid (HB.out.keep hs);have ho:=hid (HK.out.trans (Kept.since hs HS.out));have hm:=hid (Nat.le_trans HS.out hs.size);clear hs hk;go_wp2_with fail
     refine (Vg B b (Lib.byteCells (l++(first.data.toList++(its.take i).flatMap itS))) _ w1 hq.out (by rw[Lib.byteCells_length];exact HN.out) hm.out).mono ?_
     rintro e w2 ⟨rfl,he,hd⟩;have ha:=hid (Kc he (m:=(l++(first.data.toList++(its.take i).flatMap itS))++itS (.n y)) rfl)
     have hf:=hid (ho.out.trans hd);clear he hd;go_wp2
     go_roundw
     case rel=>exact⟨i+1,by go_num,by omega,by rw[ZI itS hl.out];simpa only [List.append_assoc]using ha.out,hf.out⟩
     case measure=>simp[intOf];omega
    all_goals
     intro vs w1 hs hk _;simp only[List.take,putAll,Act.put,Zh,Zd,Is,List.setIfInBounds_toArray,List.set_cons_zero,List.set_cons_succ,Nat.reduceAdd]at hk ⊢;try simp only[hk]
    iterate 4
     ·go_wp2
      exact⟨_,rfl,rfl,.refl _⟩
    ·go_wp2_with fail
     refine (Tryz.strconv_Itoa y HX.out.1 HX.out.2 _ (HL.out _ (HK.out.trans (Kept.since hs HS.out))).s.tab).mono ?_;rintro e w2 ⟨rfl,k,os,rfl⟩;have HG:=hid (WD w1 k os);generalize Sort.grow (w1.drewN k) os=w2 at *;go_wp2
     exact⟨_,rfl,rfl,HG.out⟩
    ·go_wp2
     exact⟨_,rfl,rfl,.refl _⟩
   | w y =>
    replace hc:wr.cell? ⟨rb,off+i,none⟩=some (.iface 21 _):=hc
    have h0:=VA (s:=21) Tryz.underlying32 (fun m e=>by cases e) Tryz.zeroValue32 (by decide);have h1:=VA (s:=21) Tryz.underlying3 (fun m e=>by cases e) Tryz.zeroValue3 (by decide);have h2:=Qe Tryz.underlying21 (fun m e=>by cases e);have HX:=hid hp;have HN:=zH ((l++(first.data.toList++(its.take i).flatMap itS)).length+(⟨#[32]⟩++⟨(Lib.itoa y).toArray⟩:ByteArray).size≤140737488355328) (by rw[←Zq (⟨#[32]⟩++_)];show _+(dS y).length≤_;simp only[List.length_append];simp only[itS]at hh;omega)
    have ht:=J0 y ⟨by have:=HX.out.1;omega,by have:=HX.out.2;omega⟩;clear hp hh hr;go_wp2_with fail
    refine Zb 6 rfl (by decide +kernel) (by decide +kernel) (by decide +kernel) (by decide)
     [Is (.pointer (some ⟨b,0,none⟩)),Is (.pointer (some ⟨b,0,none⟩)),Is (.pointer (some ⟨b,0,none⟩)),Is (.int .i32 y),Is (.string ⟨(Lib.itoa y).toArray⟩),Is (.string (⟨#[32]⟩++⟨(Lib.itoa y).toArray⟩))]
     (by repeat (first | exact trivial | refine⟨Is.stable _,?_⟩ | refine⟨Any.stable,?_⟩ | refine⟨ZV.stable _ _,?_⟩)) ⟨?_,?_,?_,?_,?_,?_,trivial⟩ ?_
    rotate_right
    ·intro vs w1 hs hk;simp only[List.take,List.drop,putAll,Act.put,Zc,Zd,Is,List.setIfInBounds_toArray,List.set_cons_zero,List.set_cons_succ,Nat.reduceAdd]at hk ⊢;try simp only[hk]
     have hq:=hid (HB.out.keep hs);have ho:=hid (HK.out.trans (Kept.since hs HS.out));have hm:=hid (Nat.le_trans HS.out hs.size);clear hs hk;go_wp2_with fail
     refine (Vg B b (Lib.byteCells (l++(first.data.toList++(its.take i).flatMap itS))) _ w1 hq.out (by rw[Lib.byteCells_length];exact HN.out) hm.out).mono ?_
     rintro e w2 ⟨rfl,he,hd⟩;have ha:=hid (Kc he (m:=(l++(first.data.toList++(its.take i).flatMap itS))++itS (.w y)) rfl)
     have hf:=hid (ho.out.trans hd);clear he hd;go_wp2
     go_roundw
     case rel=>exact⟨i+1,by go_num,by omega,by rw[ZI itS hl.out];simpa only [List.append_assoc]using ha.out,hf.out⟩
     case measure=>simp[intOf];omega
    all_goals
     intro vs w1 hs hk _;simp only[List.take,putAll,Act.put,Zh,Zd,Is,List.setIfInBounds_toArray,List.set_cons_zero,List.set_cons_succ,Nat.reduceAdd]at hk ⊢;try simp only[hk]
    iterate 4
     ·go_wp2
      exact⟨_,rfl,rfl,.refl _⟩
    ·go_wp2_with fail
     refine (KS y w1 HX.out.1 HX.out.2 (HL.out _ (HK.out.trans (Kept.since hs HS.out))).s).mono ?_;rintro e w2 ⟨rfl,hg⟩;have HG:=hid hg;go_wp2
     exact⟨_,rfl,rfl,HG.out⟩
    ·go_wp2
     exact⟨_,rfl,rfl,.refl _⟩
   | s y =>
    replace hc:wr.cell? ⟨rb,off+i,none⟩=some (.iface 9 _):=hc
    have h0:=VA (s:=9) Tryz.underlying32 (fun m e=>by cases e) Tryz.zeroValue32 (by decide);have h1:=VA (s:=9) Tryz.underlying3 (fun m e=>by cases e) Tryz.zeroValue3 (by decide);have h2:=VA (s:=9) Tryz.underlying21 (fun m e=>by cases e) Tryz.zeroValue21 (by decide);have h3:=Qe Tryz.underlying9 (fun m e=>by cases e);have ht:y.size≤1000000000000:=by rw[←Zq y];simp only[itS,List.length_cons]at hh;omega
    have HN:=zH ((l++(first.data.toList++(its.take i).flatMap itS)).length+(⟨#[32]⟩++y:ByteArray).size≤140737488355328) (by rw[←Zq (⟨#[32]⟩++_),Zg];show _+(itS (.s y)).length≤_;simp only[List.length_append];omega)
    clear hp hh hr;go_wp2_with fail
    refine (Vg B b (Lib.byteCells (l++(first.data.toList++(its.take i).flatMap itS))) _ wr HB.out (by rw[Lib.byteCells_length];exact HN.out) HS.out).mono ?_
    rintro e w2 ⟨rfl,he,hd⟩;have ha:=hid (Kc he (m:=(l++(first.data.toList++(its.take i).flatMap itS))++itS (.s y)) (by rw[Zg];rfl))
    have hf:=hid (HK.out.trans hd);clear he hd;go_wp2
    go_roundw
    case rel=>exact⟨i+1,by go_num,by omega,by rw[ZI itS hl.out];simpa only [List.append_assoc]using ha.out,hf.out⟩
    case measure=>simp[intOf];omega
  ·obtain rfl:its.length=i:=by omega
   have HN:=zH ((l++(first.data.toList++its.flatMap itS)).length+1≤140737488355328) (by simp only[List.length_append];omega);rw[List.take_length]at HB;go_wp2_with fail
   refine (Zgv B b (Lib.byteCells (l++(first.data.toList++its.flatMap itS))) 10 wr HB.out (by rw[Lib.byteCells_length];exact HN.out) HS.out).mono ?_;rintro e w2 ⟨rfl,he,hd⟩;have ha:=hid (Zgw (c:=10) rfl he rfl);have hf:=hid (HK.out.trans hd);clear he hd;go_wp2
   go_end0
   exact⟨rfl,by have:=ha.out;simp only[List.append_assoc]at this;exact this,hf.out⟩
def K5:List Nat→Code→Code
 | [],c=>c
 | 0::r,.seq a _=>K5 r a
 | _::r,.seq _ b=>K5 r b
 | _::r,.block _ c=>K5 r c
 | _::r,.loop c=>K5 r c
 | 0::r,.cond _ a _=>K5 r a
 | _::r,.cond _ _ b=>K5 r b
 | _::_,c=>c
def Sl:List (Nat × Value)→Act→Prop
 | [],_=>True
 | p::r,a=>a.tmps[p.1]? = some p.2∧Sl r a
theorem Zo (a:Act):Sl [] a:=trivial
theorem Za {i : Nat} {v : Value} {l : List (Nat × Value)} {a : Act} (h:a.tmps[i]? = some v) (t:Sl l a):Sl ((i,v)::l) a:=⟨h,t⟩
theorem YC {P : Program} {Q : Exit→Act→World→Prop} {a : Act} {w : World} {c : Code} (J:Nat→Act→World→Prop) (n₀:Nat) (h₀:J n₀ a w)
  (round:∀ (t:Nat) (a:Act) (w:World) (K:Act→World→Prop),J t a w→(∀ (t':Nat) (a':Act) (w':World),t' < t→J t' a' w'→K a' w')→c.wp P (Exit.then K Q) a w):(Code.loop c).wp P Q a w:=
 wp_loop_ghost J n₀ h₀ fun n a w h=>round n a w _ h fun t' a' w' h1 h2=>⟨t',h1,h2⟩
end Go.Proofs.YtmhojfpidedjeaaGreatDoor
