import Derived.Test.YtkpbmbhejpmboaaGreatPkS10
import Derived.ChangeAlike
import Derived.RangeFuncNested
import Derived.RangeFuncBound
import Derived.RangeFuncCalls
import Derived.RangeFuncLeaves
import Derived.Shelf.Abstract
import Derived.Shelf.RegionOpen
import Derived.OwnWalkIn
import Derived.TacticsInMore
import Derived.LoopNIn
import Derived.LoopIn
import Derived.OwnWalk
namespace Go.Proofs.YtkpbmbhejpmboaaGreat
open Go.RowKit
def ZaE (R:World→World→Prop) (F:Nat→Value→World→Prop) (i:Nat) (dst:Option Tmp) (a:Act) (w:World) (a':Act) (w':World):Prop:=∃ v,a'=a.put dst v∧F i v w'∧R w w'
def Zcr (R:World→World→Prop) (Q:Exit→Act→World→Prop) (F:Nat→Value→World→Prop) (i:Nat) (dst:Option Tmp) (a:Act) (w:World):Exit→Act→World→Prop
 | .normal,a',w'=>ZaE R F i dst a w a' w'
 | e,a',w'=>Q e a' w'
def QG (R:World→World→Prop) (P:Program) (all:Array Oper) (Q:Exit→Act→World→Prop) (F:Nat→Value→World→Prop) (a0:Act) (w0:World):List Oper→Nat→Prop
 | [],_=>True
 | o::r,k=>(∀ (vs:Nat→Value) (w:World),R w0 w→Zj F vs w o.after.toList→(∀ j,predB all.toList k j=true→vs j=Yw all.toList a0 j) →
   wpList P all (Zcr R Q F k o.dst (putAll all.toList 0 vs a0) w) [o] (putAll all.toList 0 vs a0) w)∧QG R P all Q F a0 w0 r (k+1)
theorem Ky {R : World→World→Prop} {P : Program} {all:Array Oper} {Q : Exit→Act→World→Prop} {F : Nat→Value→World→Prop} {a0:Act} {w0:World}:∀ (l:List Oper) (k:Nat),QG R P all Q F a0 w0 l k→∀ (i:Nat) (o:Oper),l[i]? = some o→all[k+i]? = some o →
  ∀ (vs:Nat→Value) (w:World),R w0 w→Zj F vs w o.after.toList→(∀ j,predB all.toList (k+i) j=true→vs j=Yw all.toList a0 j)→∀ K:Act→World→Prop,(∀ a' w',ZaE R F (k+i) o.dst (putAll all.toList 0 vs a0) w a' w'→K a' w') →
   wpOp P all Q (k+i) K (putAll all.toList 0 vs a0) w
 | [],_,_,_,_,h,_=>by cases h
 | p::r,k,h,0,o,ho,hall=>by
  obtain rfl:p=o:=by simpa using ho
  intro vs w hw hk ha K hK
  have:=h.1 vs w hw hk ha
  unfold wpOp
  rw[hall]
  simp only[wpList]at this
  show if _ then _ else _
  split
  ·rename_i hwant
   rw[if_pos hwant]at this
   rcases this with this|⟨h1,h2⟩
   ·exact .inl (Oper.wp_turn (fun _ _ _ h=>h) (fun h=>h) (Oper.wp_mono (fun a' w' h=>hK a' w' h) this))
   ·exact .inr ⟨h1,h2⟩
  ·rename_i hwant
   rw[if_neg hwant]at this
   exact hK _ _ this
 | p::r,k,h,i+1,o,ho,hall=>by
  have:=Ky r (k+1) h.2 i o (by simpa using ho) (by rw[show k+1+i=k+(i+1) from by omega];exact hall)
  rw[show k+1+i=k+(i+1) from by omega]at this
  exact this
section
variable {P : Program} {Q : Exit→Act→World→Prop} {l : List Oper} {F : Nat→Value→World→Prop} {a0:Act} {w0:World} {R : World→World→Prop}
theorem Zeg (hQ:∀ a b c,R a b→R b c→R a c) (hF:∀ i v w w',F i v w→R w w'→F i v w') (hd:ZU l=true) (hb:ZX l 0=true)
  (hs:QG R P l.toArray Q F a0 w0 l 0)
  (he:∀ vs w,R w0 w→Zc F vs w 0 l.length→Q .normal (putAll l 0 vs a0) w) :
  ∀ (fuel:Nat) (listed:Array Bool) (vs:Nat→Value) (w:World),listed.size=l.length→((List.range l.length).filter fun i=>!listed.getD i true).length≤fuel→R w0 w→Wl l listed→(∀ j,j<l.length→listed.getD j true=false→vs j=Yw l a0 j) →
   (∀ i,i<l.length→listed.getD i true=true→F i (vs i) w)→wpAny P .any l.toArray Q fuel listed (putAll l 0 vs a0) w:=by
 have hC:∀ (listed:Array Bool) (vs:Nat→Value) (w:World),listed.size=l.length→Region.ready .any l.toArray listed=[]→R w0 w →
   (∀ i,i<l.length→listed.getD i true=true→F i (vs i) w)→Q .normal (putAll l 0 vs a0) w:=by
  intro listed vs w hf hr hw hk;refine he vs w hw (Xa F vs w _ 0 fun i _ hi=>hk i (by omega) ?_)
  have all:∀ (n i:Nat),i<n→i<l.length→listed.getD i true=true:=by
   intro n;induction n with
   | zero=>intro i h;omega
   | succ n ih =>
    intro i h1 h2
    cases hl:listed.getD i true with
    | true=>rfl
    | false =>
     exfalso
     have:i∈Region.ready .any l.toArray listed:=by
      rw[mem_ready];have ho:l[i]? = some l[i]:=List.getElem?_eq_getElem h2;refine⟨hl,l[i],by simp,fun e hE hO=>?_⟩;have hm:=Z8 l 0 hb i l[i] ho e hE hO;have:=ih e.on (by omega) (by omega);have hc:e.on<listed.size:=by omega
      rw[Array.getD_eq_getD_getElem?,Array.getElem?_eq_getElem hc]at this ⊢;simpa using this
     rw[hr]at this
     cases this
  exact all (i+1) i (by omega) (by omega)
 have hu:∀ (listed:Array Bool) (i:Nat),listed.size=l.length→i<l.length→listed.getD i false=listed.getD i true:=by
  intro listed i hf hi;have hc:i<listed.size:=by omega
  rw[Array.getD_eq_getD_getElem?,Array.getD_eq_getD_getElem?,Array.getElem?_eq_getElem hc];rfl
 intro fuel;induction fuel with
 | zero =>
  intro listed vs w hf hn hw _ _ hk;have hr:Region.ready .any l.toArray listed=[]:=by
   rw[List.eq_nil_iff_forall_not_mem];intro i hi;rw[mem_ready]at hi;obtain⟨h1,o,ho,_⟩:=hi;have hm:i<l.length:=by simpa using (Array.getElem?_eq_some_iff.1 ho).1
   have:i∈(List.range l.length).filter fun i=>!listed.getD i true:=by
    rw[List.mem_filter];exact⟨List.mem_range.2 hm,by simp[h1]⟩
   have:=List.length_pos_of_mem this;omega
  exact⟨hr,hC listed vs w hf hr hw hk⟩
 | succ fuel ih =>
  intro listed vs w hf hn hw hI hB hk;refine⟨fun hr=>hC listed vs w hf hr hw hk,fun i hi=>?_⟩;rw[mem_ready]at hi;obtain⟨h1,o,ho,hA⟩:=hi;have hh:l[i]? = some o:=by simpa using ho
  have hm:i<l.length:=(List.getElem?_eq_some_iff.1 hh).1;have hG:Zj F vs w o.after.toList:=by
   refine XR F vs w _ fun e hE hz=>?_
   have hD:e∈o.after:=by simpa using hE
   have hR:=Z8 l 0 hb i o hh e hD hz;have hL:e.on<l.length:=by omega
   refine hk e.on hL ?_;have:=hA e hD hz;have hc:e.on<listed.size:=by omega
   rw[Array.getD_eq_getD_getElem?,Array.getElem?_eq_getElem hc]at this ⊢;simpa using this
  have ht:=Ky l 0 hs i o hh (by simpa using hh) vs w hw hG (by
   intro j hj;rw[Nat.zero_add]at hj;change predB l i j=true at hj
   unfold predB at hj
   cases hy:l[j]? with
   | none=>rw[hy]at hj;cases hj
   | some oj =>
    rw[hy]at hj;simp only[List.any_eq_true,Bool.and_eq_true,beq_iff_eq]at hj;obtain⟨e,he,hM,hN⟩:=hj;have hq:j<l.length:=(List.getElem?_eq_some_iff.1 hy).1;refine hB j hq ?_;rw[←hu listed j hf hq]
    cases hg:listed.getD j false with
    | false=>rfl
    | true =>
     have:=hI j oj hy hg e (by simpa using he) hN;rw[hM,hu listed i hf hm,h1]at this;cases this)
  rw[Nat.zero_add]at ht;refine ht _ fun a' w' ⟨v,hP,hv,hH⟩=>?_
  subst hP;have e:=Xk v l 0 vs a0 i o hh hd;rw[Nat.zero_add]at e;rw[show l.toArray.toList=l from rfl,←e];refine ih (listed.setIfInBounds i true) (upd vs i v) w' (by simpa using hf) ?_ (hQ _ _ _ hw hH) ?_ ?_ ?_
  ·have e2:((List.range l.length).filter fun j=>!(listed.setIfInBounds i true).getD j true)=((List.range l.length).filter fun j=>!listed.getD j true).filter fun j=>j != i:=by
    rw[List.filter_filter];refine List.filter_congr fun j hj=>?_
    by_cases ha:j=i
    ·subst ha;have hc:j<listed.size:=by omega
     simp[Array.getD_eq_getD_getElem?,hc]
    ·rw[getD_set_ne _ (Ne.symm ha)];simp[ha]
   rw[e2];have hK:i∈(List.range l.length).filter fun j=>!listed.getD j true:=by
    rw[List.mem_filter];exact⟨List.mem_range.2 hm,by simp[h1]⟩
   have:=(List.length_filter_lt_length_iff_exists (p:=fun j=>j != i) (l:=(List.range l.length).filter fun j=>!listed.getD j true)).2 ⟨i,hK,by simp⟩
   omega
  ·intro j p hp hq x hx hJ;by_cases ha:j=i
   ·subst ha;have:=hh.symm.trans hp;cases this
    exact getD_set_true (hA x hx hJ)
   ·rw[getD_set_ne _ (Ne.symm ha)]at hq;exact getD_set_true (hI j p hp hq x hx hJ)
  ·intro j hj hg;by_cases ha:j=i
   ·subst ha;have hc:j<listed.size:=by omega
    simp[Array.getD_eq_getD_getElem?,hc]at hg
   ·rw[YW _ _ ha];rw[getD_set_ne _ (Ne.symm ha)]at hg;exact hB j hj hg
  ·intro j hj hg;by_cases ha:j=i
   ·subst ha;rw[XQ];exact hv
   ·rw[YW _ _ ha];rw[getD_set_ne _ (Ne.symm ha)]at hg;exact hF _ _ _ _ (hk j hj hg) hH
end
def StepsT (R:World→World→Prop) (P:Program) (ops:Array Oper) (l:List Oper) (Q:Exit→Act→World→Prop) (F:Nat→Value→World→Prop) (a0:Act) (w0:World):List Oper→Nat→Prop
 | [],_=>True
 | o::r,k=>(∀ (vs:Nat→Value) (w:World),R w0 w→Zj F vs w o.after.toList→(∀ j,predB l k j=true→vs j=Yw l a0 j) →
   wpList P ops (Zcr R Q F k o.dst (putAll l 0 vs a0) w) [o] (putAll l 0 vs a0) w)∧StepsT R P ops l Q F a0 w0 r (k+1)
theorem Kx {R : World→World→Prop} {P : Program} {ops:Array Oper} {l0:List Oper} {Q : Exit→Act→World→Prop} {F : Nat→Value→World→Prop} {a0:Act} {w0:World}:∀ (l:List Oper) (k:Nat),StepsT R P ops l0 Q F a0 w0 l k→∀ (i:Nat) (o:Oper),l[i]? = some o→ops[k+i]? = some o →
  ∀ (vs:Nat→Value) (w:World),R w0 w→Zj F vs w o.after.toList→(∀ j,predB l0 (k+i) j=true→vs j=Yw l0 a0 j)→∀ K:Act→World→Prop,(∀ a' w',ZaE R F (k+i) o.dst (putAll l0 0 vs a0) w a' w'→K a' w') →
   wpOp P ops Q (k+i) K (putAll l0 0 vs a0) w
 | [],_,_,_,_,h,_=>by cases h
 | p::r,k,h,0,o,ho,hall=>by
  obtain rfl:p=o:=by simpa using ho
  intro vs w hw hk ha K hK
  have:=h.1 vs w hw hk ha
  unfold wpOp
  rw[hall]
  simp only[wpList]at this
  show if _ then _ else _
  split
  ·rename_i hwant
   rw[if_pos hwant]at this
   rcases this with this|⟨h1,h2⟩
   ·exact .inl (Oper.wp_turn (fun _ _ _ h=>h) (fun h=>h) (Oper.wp_mono (fun a' w' h=>hK a' w' h) this))
   ·exact .inr ⟨h1,h2⟩
  ·rename_i hwant
   rw[if_neg hwant]at this
   exact hK _ _ this
 | p::r,k,h,i+1,o,ho,hall=>by
  have:=Kx r (k+1) h.2 i o (by simpa using ho) (by rw[show k+1+i=k+(i+1) from by omega];exact hall)
  rw[show k+1+i=k+(i+1) from by omega]at this
  exact this
def Y4 (all:List Oper) (n:Nat):Bool:=
 (List.range all.length).all fun k=>decide (k<n)||(List.range k).all fun i=>predB all i k||XM all all.length i k
theorem XO {all:List Oper} {n : Nat} (hf:Y4 all n=true) {listed:Array Bool} (hc:Wl all listed) {k : Nat} {o : Oper} (ho:all[k]? = some o) (hk:n≤k) (hp:∀ e∈o.after,Region.binds .any e=true→listed.getD e.on false=true) {i : Nat} (hi:i<k):listed.getD i false=true:=by
 unfold Y4 at hf;rw[List.all_eq_true]at hf;have h1:=hf k (List.mem_range.2 (List.getElem?_eq_some_iff.1 ho).1);rw[Bool.or_eq_true,decide_eq_true_eq]at h1;rcases h1 with h1|h1
 ·omega
 rw[List.all_eq_true]at h1;have h2:=h1 i (List.mem_range.2 hi);rw[Bool.or_eq_true]at h2;rcases h2 with h2|h2
 ·unfold predB at h2;rw[ho]at h2;simp only[List.any_eq_true,Bool.and_eq_true,beq_iff_eq]at h2;obtain⟨e,he,ha,hb⟩:=h2;rw[←ha];exact hp e (by simpa using he) hb
 ·exact YP hc _ _ _ h2 o ho hp
section
variable {P : Program} {Q : Exit→Act→World→Prop} {l t0:List Oper} {F : Nat→Value→World→Prop} {a0:Act} {w0:World} {R : World→World→Prop}
theorem Z0 {listed:Array Bool} {i : Nat} (h:i<listed.size):listed.getD i false=listed.getD i true:=by
 rw[Array.getD_eq_getD_getElem?,Array.getD_eq_getD_getElem?,Array.getElem?_eq_getElem h];rfl
theorem Jv {all:List Oper} {n0:Nat} (hb:ZX all 0=true) (hv:all.drop n0=t0) (hf:Y4 all n0=true):∀ (t:List Oper) (k:Nat),t0.drop k=t→n0+k≤all.length →
  ∀ (fuel:Nat) (listed:Array Bool) (a:Act) (w:World),listed.size=all.length→((List.range all.length).filter fun i=>!listed.getD i true).length≤fuel →
   (∀ i,i<n0+k→listed.getD i true=true)→(∀ i,n0+k≤i→i<all.length→listed.getD i true=false)→wpList P all.toArray Q t a w→wpAny P .any all.toArray Q fuel listed a w:=by
 intro t;induction t with
 | nil =>
  intro k hk hB fuel listed a w hx hC h1 h2 hw;have hE:all.length≤n0+k:=by
   have:(t0.drop k).length=0:=by rw[hk];rfl
   rw[←hv,List.length_drop,List.length_drop]at this;omega
  have hr:Region.ready .any all.toArray listed=[]:=by
   rw[List.eq_nil_iff_forall_not_mem];intro i hi;rw[mem_ready]at hi;obtain⟨h3,o,ho,_⟩:=hi;have hd:i<all.length:=by simpa using (Array.getElem?_eq_some_iff.1 ho).1
   rw[h1 i (by omega)]at h3
   cases h3
  cases fuel with
  | zero=>exact⟨hr,hw⟩
  | succ fuel=>exact⟨fun _=>hw,fun i hi=>by rw[hr]at hi;cases hi⟩
 | cons o r ih =>
  intro k hk hB fuel listed a w hx hC h1 h2 hw;have hg:all[n0+k]? = some o:=by
   have e:(t0.drop k)[0]? = some o:=by rw[hk];rfl
   rw[←hv,List.drop_drop,List.getElem?_drop]at e;simpa using e
  have hd:n0+k<all.length:=(List.getElem?_eq_some_iff.1 hg).1;have hm:n0+k∈(List.range all.length).filter fun i=>!listed.getD i true:=by
   rw[List.mem_filter];exact⟨List.mem_range.2 hd,by rw[h2 _ (Nat.le_refl _) hd];rfl⟩
  have hD:=List.length_pos_of_mem hm
  cases fuel with
  | zero=>omega
  | succ fuel =>
   refine⟨fun hr=>?_,fun i hi=>?_⟩
   ·exfalso
    have:n0+k∈Region.ready .any all.toArray listed:=by
     rw[mem_ready];refine⟨h2 _ (Nat.le_refl _) hd,o,by simpa using hg,fun e he hu=>?_⟩;have:=Z8 all 0 hb (n0+k) o hg e he hu;rw[Z0 (by omega)];exact h1 _ (by omega)
    rw[hr]at this
    cases this
   ·rw[mem_ready]at hi;obtain⟨h3,p,hp,hy⟩:=hi;have hl:all[i]? = some p:=by simpa using hp
    have hG:i<all.length:=(List.getElem?_eq_some_iff.1 hl).1;have hH:n0+k≤i:=by
     by_cases hz:i<n0+k
     ·rw[h1 i hz]at h3;cases h3
     ·omega
    obtain rfl:i=n0+k:=by
     by_cases he:i=n0+k
     ·exact he
     ·exfalso
      have hc:Wl all listed:=by
       intro j q hq hn e he hu;have hs:j<all.length:=(List.getElem?_eq_some_iff.1 hq).1;have hI:=Z8 all 0 hb j q hq e he hu;rw[Z0 (by omega)]at hn ⊢;by_cases hF:j<n0+k
       ·exact h1 _ (by omega)
       ·rw[h2 j (by omega) hs]at hn;cases hn
      have:=XO hf hc hl (by omega) hy (i:=n0+k) (by omega);rw[Z0 (by omega),h2 _ (Nat.le_refl _) hd]at this
      cases this
    have:=hl.symm.trans hg
    cases this
    have hh:∀ a' w',wpList P all.toArray Q r a' w'→wpAny P .any all.toArray Q fuel (listed.setIfInBounds (n0+k) true) a' w':=by
     intro a' w' hA;refine ih (k+1) (by rw[←List.drop_drop,hk];rfl) (by omega) fuel _ a' w' (by simpa using hx) ?_ ?_ ?_ hA
     ·have e2:((List.range all.length).filter fun j=>!(listed.setIfInBounds (n0+k) true).getD j true)=((List.range all.length).filter fun j=>!listed.getD j true).filter fun j=>j != n0+k:=by
       rw[List.filter_filter];refine List.filter_congr fun j hj=>?_
       by_cases ha:j=n0+k
       ·subst ha;have ht:n0+k<listed.size:=by omega
        simp[Array.getD_eq_getD_getElem?,ht]
       ·rw[getD_set_ne _ (Ne.symm ha)];simp[ha]
      rw[e2];have:=(List.length_filter_lt_length_iff_exists (p:=fun j=>j != n0+k) (l:=(List.range all.length).filter fun j=>!listed.getD j true)).2 ⟨n0+k,hm,by simp⟩
      omega
     ·intro j hj;by_cases ha:j=n0+k
      ·subst ha;have ht:n0+k<listed.size:=by omega
       simp[Array.getD_eq_getD_getElem?,ht]
      ·rw[getD_set_ne _ (Ne.symm ha)];exact h1 j (by omega)
     ·intro j hj hs;rw[getD_set_ne _ (by omega)];exact h2 j (by omega) hs
    unfold wpOp;rw[hp];simp only[wpList]at hw;show if _ then _ else _
    split
    ·rename_i hwant
     rw[if_pos hwant]at hw;rcases hw with hw|⟨g1,g2⟩
     ·exact .inl (Oper.wp_mono hh hw)
     ·exact .inr ⟨g1,g2⟩
    ·rename_i hwant
     rw[if_neg hwant]at hw;exact hh _ _ hw
theorem ZaA (hY:∀ a b c,R a b→R b c→R a c) (hF:∀ i v w w',F i v w→R w w'→F i v w') (hd:ZU l=true) (hb:ZX (l++t0) 0=true) (hf:Y4 (l++t0) l.length=true)
  (hs:StepsT R P (l++t0).toArray l Q F a0 w0 l 0)
  (he:∀ vs w,R w0 w→Zc F vs w 0 l.length→wpList P (l++t0).toArray Q t0 (putAll l 0 vs a0) w) :
  ∀ (fuel:Nat) (listed:Array Bool) (vs:Nat→Value) (w:World),listed.size=(l++t0).length→((List.range (l++t0).length).filter fun i=>!listed.getD i true).length≤fuel→R w0 w→Wl (l++t0) listed→(∀ j,j<l.length→listed.getD j true=false→vs j=Yw l a0 j) →
   (∀ i,i<l.length→listed.getD i true=true→F i (vs i) w)→(∀ i,l.length≤i→i<(l++t0).length→listed.getD i true=false)→wpAny P .any (l++t0).toArray Q fuel listed (putAll l 0 vs a0) w:=by
 have h0:l.length≤(l++t0).length:=by simp
 have hE:∀ (fuel:Nat) (listed:Array Bool) (vs:Nat→Value) (w:World),listed.size=(l++t0).length→((List.range (l++t0).length).filter fun i=>!listed.getD i true).length≤fuel→R w0 w→(∀ i,i<l.length→listed.getD i true=true) →
   (∀ i,i<l.length→listed.getD i true=true→F i (vs i) w)→(∀ i,l.length≤i→i<(l++t0).length→listed.getD i true=false)→wpAny P .any (l++t0).toArray Q fuel listed (putAll l 0 vs a0) w:=by
  intro fuel listed vs w hq hn hw hI hk hm;refine Jv (n0:=l.length) (t0:=t0) hb (by simp) hf t0 0 rfl (by simp) fuel listed _ w hq hn (fun i hi=>hI i (by omega)) (fun i hi hT=>hm i (by omega) hT) ?_
  exact he vs w hw (Xa F vs w _ 0 fun i _ hi=>hk i (by omega) (hI i (by omega)))
 have hR:∀ i o,i<l.length→(l++t0)[i]? = some o→l[i]? = some o:=fun i o hi h=>by rwa [List.getElem?_append_left hi]at h
 intro fuel;induction fuel with
 | zero =>
  intro listed vs w hq hn hw hB hy hk hm;refine hE 0 listed vs w hq hn hw (fun i hi=>?_) hk hm
  cases hl:listed.getD i true with
  | true=>rfl
  | false =>
   exfalso
   have:i∈(List.range (l++t0).length).filter fun i=>!listed.getD i true:=by
    rw[List.mem_filter];exact⟨List.mem_range.2 (by omega),by simp[hl]⟩
   have:=List.length_pos_of_mem this;omega
 | succ fuel ih =>
  intro listed vs w hq hn hw hB hy hk hm;by_cases ht:∀ i,i<l.length→listed.getD i true=true
  ·exact hE (fuel+1) listed vs w hq hn hw ht hk hm
  ·refine⟨fun hr=>?_,fun i hi=>?_⟩
   ·exfalso
    apply ht
    have all:∀ (n i:Nat),i<n→i<l.length→listed.getD i true=true:=by
     intro n;induction n with
     | zero=>intro i h;omega
     | succ n ihn =>
      intro i h1 h2
      cases hl:listed.getD i true with
      | true=>rfl
      | false =>
       exfalso
       have:i∈Region.ready .any (l++t0).toArray listed:=by
        rw[mem_ready];have ho:(l++t0)[i]? = some l[i]:=by rw[List.getElem?_append_left h2];exact List.getElem?_eq_getElem h2
        refine⟨hl,l[i],by simpa using ho,fun e hH hW=>?_⟩;have hM:=Z8 (l++t0) 0 hb i l[i] ho e hH hW;rw[Z0 (by omega)];exact ihn e.on (by omega) (by omega)
       rw[hr]at this
       cases this
    exact fun i hi=>all (i+1) i (by omega) hi
   ·rw[mem_ready]at hi;obtain⟨h1,o,ho,hu⟩:=hi;have hc:(l++t0)[i]? = some o:=by simpa using ho
    have hQ:i<(l++t0).length:=(List.getElem?_eq_some_iff.1 hc).1;have hM:i<l.length:=by
     by_cases h:i<l.length
     ·exact h
     ·exfalso
      apply ht
      intro j hj;have:=XO hf hB hc (by omega) hu (i:=j) (by omega)
      rwa [Z0 (by omega)]at this
    have hL:=hR i o hM hc;have hJ:Zj F vs w o.after.toList:=by
     refine XR F vs w _ fun e hH hC=>?_
     have hG:e∈o.after:=by simpa using hH
     have hZ:=Z8 (l++t0) 0 hb i o hc e hG hC;have hS:e.on<l.length:=by omega
     refine hk e.on hS ?_;rw[←Z0 (by omega)];exact hu e hG hC
    have hz:=Kx l 0 hs i o hL (by simpa using hc) vs w hw hJ (by
     intro j hj;rw[Nat.zero_add]at hj;unfold predB at hj
     cases hA:l[j]? with
     | none=>rw[hA]at hj;cases hj
     | some oj =>
      rw[hA]at hj;simp only[List.any_eq_true,Bool.and_eq_true,beq_iff_eq]at hj;obtain⟨e,he,hU,hV⟩:=hj;have hh:j<l.length:=(List.getElem?_eq_some_iff.1 hA).1;have hO:(l++t0)[j]? = some oj:=by rw[List.getElem?_append_left hh];exact hA
      refine hy j hh ?_;rw[←Z0 (by omega)]
      cases hg:listed.getD j false with
      | false=>rfl
      | true =>
       have:=hB j oj hO hg e (by simpa using he) hV;rw[hU,Z0 (by omega),h1]at this;cases this)
    rw[Nat.zero_add]at hz;refine hz _ fun a' w' ⟨v,hX,hv,hK⟩=>?_
    subst hX;have e:=Xk v l 0 vs a0 i o hL hd;rw[Nat.zero_add]at e;rw[←e];refine ih (listed.setIfInBounds i true) (upd vs i v) w' (by simpa using hq) ?_ (hY _ _ _ hw hK) ?_ ?_ ?_ ?_
    ·have e2:((List.range (l++t0).length).filter fun j=>!(listed.setIfInBounds i true).getD j true)=((List.range (l++t0).length).filter fun j=>!listed.getD j true).filter fun j=>j != i:=by
      rw[List.filter_filter];refine List.filter_congr fun j hj=>?_
      by_cases ha:j=i
      ·subst ha;have hD:j<listed.size:=by omega
       simp[Array.getD_eq_getD_getElem?,hD]
      ·rw[getD_set_ne _ (Ne.symm ha)];simp[ha]
     rw[e2];have hP:i∈(List.range (l++t0).length).filter fun j=>!listed.getD j true:=by
      rw[List.mem_filter];exact⟨List.mem_range.2 hQ,by simp[h1]⟩
     have:=(List.length_filter_lt_length_iff_exists (p:=fun j=>j != i) (l:=(List.range (l++t0).length).filter fun j=>!listed.getD j true)).2 ⟨i,hP,by simp⟩
     omega
    ·intro j p hp hh x hx hN;by_cases ha:j=i
     ·subst ha;have:=hc.symm.trans hp;cases this
      exact getD_set_true (hu x hx hN)
     ·rw[getD_set_ne _ (Ne.symm ha)]at hh;exact getD_set_true (hB j p hp hh x hx hN)
    ·intro j hj hg;by_cases ha:j=i
     ·subst ha;have hD:j<listed.size:=by omega
      simp[Array.getD_eq_getD_getElem?,hD]at hg
     ·rw[YW _ _ ha];rw[getD_set_ne _ (Ne.symm ha)]at hg;exact hy j hj hg
    ·intro j hj hg;by_cases ha:j=i
     ·subst ha;rw[XQ];exact hv
     ·rw[YW _ _ ha];rw[getD_set_ne _ (Ne.symm ha)]at hg;exact hF _ _ _ _ (hk j hj hg) hK
    ·intro j hj hh;rw[getD_set_ne _ (by omega)];exact hm j hj hh
end
theorem Kh {P : Program} {Q : Exit→Act→World→Prop} {all:List Oper} {a0:Act} {w0:World} {id:Nat} (n:Nat) (R:World→World→Prop) (hh:∀ a b c,R a b→R b c→R a c) (hj:R w0 w0.drew) (hm:P.follows .mixedOrders=true)
  (hd:ZU (all.take n)=true) (hb:ZX all 0=true) (hf:Y4 all n=true) (hn:n≤all.length) (Fs:List (Value→World→Prop)) (hF:∀ i v w w',Ze Fs i v w→R w w'→Ze Fs i v w')
  (hs:StepsT R P all.toArray (all.take n) Q (Ze Fs) a0 w0 (all.take n) 0)
  (he:∀ vs w,R w0 w→Zc (Ze Fs) vs w 0 n→wpList P all.toArray Q (all.drop n) (putAll (all.take n) 0 vs a0) w):(Code.region id all.toArray true).wp P Q a0 w0:=by
 refine wp_region_any hm ?_;have hc:(all.take n).length=n:=by rw[List.length_take];omega
 have ha:all.take n++all.drop n=all:=List.take_append_drop n all;have e:=Xl (Yw (all.take n) a0) a0 (all.take n) 0 (fun i o d hi hg=>by simp only[Yw,Nat.zero_add,hi,Option.bind_some,hg]);have h:=ZaA (l:=all.take n) (t0:=all.drop n) (P:=P) (Q:=Q) (F:=Ze Fs) (a0:=a0) (w0:=w0) hh hF hd (by rw[ha];exact hb) (by rw[ha,hc];exact hf) (by rw[ha];exact hs) (by rw[ha,hc];exact he)
  all.length (Array.replicate all.length false) (Yw (all.take n) a0) { w0 with drawn:=w0.drawn+1 } (by rw[ha];simp) (by rw[ha];exact Nat.le_trans (List.length_filter_le _ _) (by simp)) hj
  (fun i o ho hl=>by
   have hi:i<all.length:=by rw[←ha];exact (List.getElem?_eq_some_iff.1 ho).1
   simp[Array.getD_eq_getD_getElem?,hi]at hl)
  (fun _ _ _=>rfl)
  (fun i hi hl=>by
   have:i<all.length:=by omega
   simp[Array.getD_eq_getD_getElem?,this]at hl)
  (fun i _ hi=>by
   rw[ha]at hi;simp[Array.getD_eq_getD_getElem?,hi])
 rw[e,ha]at h;simpa using h
theorem Zg {P : Program} {Q : Exit→Act→World→Prop} {all:List Oper} {a0:Act} {w0:World} {id:Nat} (n:Nat) (hm:P.follows .mixedOrders=true)
  (hd:ZU (all.take n)=true) (hb:ZX all 0=true) (hf:Y4 all n=true) (hn:n≤all.length) (Fs:List (Value→World→Prop)) (hF:Wm Fs)
  (hs:StepsT Since P all.toArray (all.take n) Q (Ze Fs) a0 w0 (all.take n) 0)
  (he:∀ vs w,Since w0 w→Zc (Ze Fs) vs w 0 n→wpList P all.toArray Q (all.drop n) (putAll (all.take n) 0 vs a0) w):(Code.region id all.toArray true).wp P Q a0 w0:=
 Kh n Since (fun _ _ _=>Since.trans) (Since.refl _).drew hm hd hb hf hn Fs (We Fs hF) hs he
def XD (all:List Oper) (n:Nat) (keys los his incs:List Nat):Bool:=
 los==(List.range n).map (loK all keys)&&his==(List.range n).map (hiK all keys)&&incs==(List.range n).map (fun i=>if keys.contains i then 1 else 0)&&decide keys.Nodup&&keys.all (fun k=>decide (k<n))
def Vi (R:World→World→Prop) (Ph:Nat→World→Prop) (P:Program) (ops:Array Oper) (l:List Oper) (Q:Exit→Act→World→Prop) (F:Nat→Value→World→Prop) (a0:Act) (w0:World):List Oper→List Nat→List Nat→List Nat→Nat→Prop
 | o::r,lo::los,hi::his,inc::incs,k=>(∀ (p:Nat) (vs:Nat→Value) (w:World),lo≤p→p≤hi→R w0 w→Ph p w→Zj F vs w o.after.toList →
   wpList P ops (ZaD R Ph Q F k (p+inc) o.dst (putAll l 0 vs a0) w) [o] (putAll l 0 vs a0) w)∧Vi R Ph P ops l Q F a0 w0 r los his incs (k+1)
 | _,_,_,_,_=>True
theorem JG {R : World→World→Prop} {Ph:Nat→World→Prop} {P : Program} {ops:Array Oper} {l0:List Oper} {Q : Exit→Act→World→Prop} {F : Nat→Value→World→Prop} {a0:Act} {w0:World}:∀ (l:List Oper) (los ha incs:List Nat) (k:Nat),Vi R Ph P ops l0 Q F a0 w0 l los ha incs k→los.length=l.length→ha.length=l.length→incs.length=l.length→∀ (i:Nat) (o:Oper),l[i]? = some o→ops[k+i]? = some o →
  ∀ (p:Nat) (vs:Nat→Value) (w:World),los.getD i 0≤p→p≤ha.getD i 0→R w0 w→Ph p w→Zj F vs w o.after.toList→∀ K:Act→World→Prop,(∀ a' w',Qc R Ph F (k+i) (p+incs.getD i 0) o.dst (putAll l0 0 vs a0) w a' w'→K a' w') →
   wpOp P ops Q (k+i) K (putAll l0 0 vs a0) w
 | [],_,_,_,_,_,_,_,_,_,_,h,_=>by cases h
 | _::_,[],_,_,_,_,h,_,_,_,_,_,_=>by simp at h
 | _::_,_::_,[],_,_,_,_,h,_,_,_,_,_=>by simp at h
 | _::_,_::_,_::_,[],_,_,_,_,h,_,_,_,_=>by simp at h
 | p::r,lo::los,hi::ha,inc::incs,k,h,_,_,_,0,o,ho,hall=>by
  obtain rfl:p=o:=by simpa using ho
  intro q vs w hc hd hw hb hk K hK
  have:=h.1 q vs w hc hd hw hb hk
  unfold wpOp
  rw[hall]
  simp only[wpList]at this
  show if _ then _ else _
  split
  ·rename_i hwant
   rw[if_pos hwant]at this
   rcases this with this|⟨h1,h2⟩
   ·exact .inl (Oper.wp_turn (fun _ _ _ h=>h) (fun h=>h) (Oper.wp_mono (fun a' w' h=>hK a' w' h) this))
   ·exact .inr ⟨h1,h2⟩
  ·rename_i hwant
   rw[if_neg hwant]at this
   exact hK _ _ this
 | p::r,lo::los,hi::ha,inc::incs,k,h,h1,h2,h3,i+1,o,ho,hall=>by
  have:=JG r los ha incs (k+1) h.2 (by simpa using h1) (by simpa using h2) (by simpa using h3) i o (by simpa using ho) (by rw[show k+1+i=k+(i+1) from by omega];exact hall)
  rw[show k+1+i=k+(i+1) from by omega]at this
  exact this
section
variable {P : Program} {Q : Exit→Act→World→Prop} {l t0:List Oper} {F : Nat→Value→World→Prop} {a0:Act} {w0:World} {R : World→World→Prop} {Ph:Nat→World→Prop} {keys los his incs:List Nat}
theorem QS (hC:XD (l++t0) l.length keys los his incs=true) (He:∀ a b c,R a b→R b c→R a c) (hF:∀ i v w w',F i v w→R w w'→F i v w') (hd:ZU l=true) (hb:ZX (l++t0) 0=true) (hf:Y4 (l++t0) l.length=true)
  (hs:Vi R Ph P (l++t0).toArray l Q F a0 w0 l los his incs 0)
  (he:∀ vs w,R w0 w→Ph keys.length w→Zc F vs w 0 l.length→wpList P (l++t0).toArray Q t0 (putAll l 0 vs a0) w) :
  ∀ (fuel:Nat) (listed:Array Bool) (vs:Nat→Value) (w:World),listed.size=(l++t0).length→((List.range (l++t0).length).filter fun i=>!listed.getD i true).length≤fuel→R w0 w→Ph (ZY keys listed) w→Wl (l++t0) listed →
   (∀ i,i<l.length→listed.getD i true=true→F i (vs i) w)→(∀ i,l.length≤i→i<(l++t0).length→listed.getD i true=false)→wpAny P .any (l++t0).toArray Q fuel listed (putAll l 0 vs a0) w:=by
 unfold XD at hC;simp only[Bool.and_eq_true,beq_iff_eq,decide_eq_true_eq,List.all_eq_true]at hC;obtain⟨⟨⟨⟨hL,hN⟩,hI⟩,hY⟩,hG⟩:=hC;have h7:l.length≤(l++t0).length:=by simp
 have hO:∀ (fuel:Nat) (listed:Array Bool) (vs:Nat→Value) (w:World),listed.size=(l++t0).length→((List.range (l++t0).length).filter fun i=>!listed.getD i true).length≤fuel→R w0 w→Ph (ZY keys listed) w→(∀ i,i<l.length→listed.getD i true=true) →
   (∀ i,i<l.length→listed.getD i true=true→F i (vs i) w)→(∀ i,l.length≤i→i<(l++t0).length→listed.getD i true=false)→wpAny P .any (l++t0).toArray Q fuel listed (putAll l 0 vs a0) w:=by
  intro fuel listed vs w hq hn hw hh hD hk hm;have hS:ZY keys listed=keys.length:=by
   unfold ZY;rw[List.countP_eq_length];intro k hk;have hM:=hG k hk;rw[Z0 (by omega)];exact hD k hM
  rw[hS]at hh;refine Jv (n0:=l.length) (t0:=t0) hb (by simp) hf t0 0 rfl (by simp) fuel listed _ w hq hn (fun i hi=>hD i (by omega)) (fun i hi hB=>hm i (by omega) hB) ?_
  exact he vs w hw hh (Xa F vs w _ 0 fun i _ hi=>hk i (by omega) (hD i (by omega)))
 have h4:∀ i o,i<l.length→(l++t0)[i]? = some o→l[i]? = some o:=fun i o hi h=>by rwa [List.getElem?_append_left hi]at h
 intro fuel;induction fuel with
 | zero =>
  intro listed vs w hq hn hw hh ht hk hm;refine hO 0 listed vs w hq hn hw hh (fun i hi=>?_) hk hm
  cases hl:listed.getD i true with
  | true=>rfl
  | false =>
   exfalso
   have:i∈(List.range (l++t0).length).filter fun i=>!listed.getD i true:=by
    rw[List.mem_filter];exact⟨List.mem_range.2 (by omega),by simp[hl]⟩
   have:=List.length_pos_of_mem this;omega
 | succ fuel ih =>
  intro listed vs w hq hn hw hh ht hk hm;by_cases hy:∀ i,i<l.length→listed.getD i true=true
  ·exact hO (fuel+1) listed vs w hq hn hw hh hy hk hm
  ·refine⟨fun hr=>?_,fun i hi=>?_⟩
   ·exfalso
    apply hy
    have all:∀ (n i:Nat),i<n→i<l.length→listed.getD i true=true:=by
     intro n;induction n with
     | zero=>intro i h;omega
     | succ n ihn =>
      intro i h1 h2
      cases hl:listed.getD i true with
      | true=>rfl
      | false =>
       exfalso
       have:i∈Region.ready .any (l++t0).toArray listed:=by
        rw[mem_ready];have ho:(l++t0)[i]? = some l[i]:=by rw[List.getElem?_append_left h2];exact List.getElem?_eq_getElem h2
        refine⟨hl,l[i],by simpa using ho,fun e hQ hC=>?_⟩;have hz:=Z8 (l++t0) 0 hb i l[i] ho e hQ hC;rw[Z0 (by omega)];exact ihn e.on (by omega) (by omega)
       rw[hr]at this
       cases this
    exact fun i hi=>all (i+1) i (by omega) hi
   ·rw[mem_ready]at hi;obtain⟨h1,o,ho,hu⟩:=hi;have hc:(l++t0)[i]? = some o:=by simpa using ho
    have h0:i<(l++t0).length:=(List.getElem?_eq_some_iff.1 hc).1;have hz:i<l.length:=by
     by_cases h:i<l.length
     ·exact h
     ·exfalso
      apply hy
      intro j hj;have:=XO hf ht hc (by omega) hu (i:=j) (by omega)
      rwa [Z0 (by omega)]at this
    have hU:=h4 i o hz hc;have hR:Zj F vs w o.after.toList:=by
     refine XR F vs w _ fun e hQ hK=>?_
     have hP:e∈o.after:=by simpa using hQ
     have Hf:=Z8 (l++t0) 0 hb i o hc e hP hK;have h5:e.on<l.length:=by omega
     refine hk e.on h5 ?_;rw[←Z0 (by omega)];exact hu e hP hK
    have hB:listed.getD i false=false:=by rw[Z0 (by omega)];exact h1
    have h6:los.getD i 0≤ZY keys listed:=by
     rw[hL];simp only[List.getD_eq_getElem?_getD,List.getElem?_map,List.getElem?_range hz,Option.map_some,Option.getD_some];exact List.countP_mono_left fun k _ hA=>YP ht _ _ _ hA o hc hu
    have Ha:ZY keys listed≤his.getD i 0:=by
     rw[hN];simp only[List.getD_eq_getElem?_getD,List.getElem?_map,List.getElem?_range hz,Option.map_some,Option.getD_some];refine List.countP_mono_left fun k h8 hA=>?_
     simp only[Bool.and_eq_true,Bool.not_eq_true',beq_eq_false_iff_ne];refine⟨?_,fun e=>by rw[e,hB]at hA;cases hA⟩
     cases Hb:XM (l++t0) (l++t0).length i k with
     | false=>rfl
     | true =>
      exfalso
      have hM:k<(l++t0).length:=Nat.lt_of_lt_of_le (hG k h8) h7;have hV:(l++t0)[k]? = some (l++t0)[k]:=List.getElem?_eq_getElem hM;have:=YP ht _ _ _ Hb _ hV (ht k _ hV hA);rw[hB]at this;cases this
    have h3:incs.getD i 0=if keys.contains i then 1 else 0:=by
     rw[hI];simp only[List.getD_eq_getElem?_getD,List.getElem?_map,List.getElem?_range hz,Option.map_some,Option.getD_some]
    have hE:=JG l los his incs 0 hs (by rw[hL];simp) (by rw[hN];simp) (by rw[hI];simp) i o hU (by simpa using hc) (ZY keys listed) vs w h6 Ha hw hh hR;rw[Nat.zero_add]at hE;refine hE _ fun a' w' ⟨v,Hc,hv,hT,hg⟩=>?_
    subst Hc;have e:=Xk v l 0 vs a0 i o hU hd;rw[Nat.zero_add]at e;rw[←e];refine ih (listed.setIfInBounds i true) (upd vs i v) w' (by simpa using hq) ?_ (He _ _ _ hw hT) ?_ ?_ ?_ ?_
    ·have e2:((List.range (l++t0).length).filter fun j=>!(listed.setIfInBounds i true).getD j true)=((List.range (l++t0).length).filter fun j=>!listed.getD j true).filter fun j=>j != i:=by
      rw[List.filter_filter];refine List.filter_congr fun j hj=>?_
      by_cases ha:j=i
      ·subst ha;have h9:j<listed.size:=by omega
       simp[Array.getD_eq_getD_getElem?,h9]
      ·rw[getD_set_ne _ (Ne.symm ha)];simp[ha]
     rw[e2];have hZ:i∈(List.range (l++t0).length).filter fun j=>!listed.getD j true:=by
      rw[List.mem_filter];exact⟨List.mem_range.2 h0,by simp[h1]⟩
     have:=(List.length_filter_lt_length_iff_exists (p:=fun j=>j != i) (l:=(List.range (l++t0).length).filter fun j=>!listed.getD j true)).2 ⟨i,hZ,by simp⟩
     omega
    ·rw[h3]at hg;by_cases hJ:i∈keys
     ·rw[WC (by omega) hB hY hJ];rw[if_pos (by simpa using hJ)]at hg;exact hg
     ·rw[WA hJ];rw[if_neg (by simpa using hJ)]at hg;exact hg
    ·intro j p hp hH x hx hX;by_cases ha:j=i
     ·subst ha;have:=hc.symm.trans hp;cases this
      exact getD_set_true (hu x hx hX)
     ·rw[getD_set_ne _ (Ne.symm ha)]at hH;exact getD_set_true (ht j p hp hH x hx hX)
    ·intro j hj hW;by_cases ha:j=i
     ·subst ha;rw[XQ];exact hv
     ·rw[YW _ _ ha];rw[getD_set_ne _ (Ne.symm ha)]at hW;exact hF _ _ _ _ (hk j hj hW) hT
    ·intro j hj hH;rw[getD_set_ne _ (by omega)];exact hm j hj hH
end
theorem VC {P : Program} {Q : Exit→Act→World→Prop} {all:List Oper} {a0:Act} {w0:World} {id:Nat} (n:Nat) (keys los hg incs:List Nat) (R:World→World→Prop) (Ph:Nat→World→Prop) (hp:∀ a b c,R a b→R b c→R a c) (hq:R w0 w0.drew) (hm:P.follows .mixedOrders=true)
  (hd:ZU (all.take n)=true) (hb:ZX all 0=true) (hf:Y4 all n=true) (hn:n≤all.length) (hk:XD all n keys los hg incs=true) (Fs:List (Value→World→Prop)) (hF:∀ i v w w',Ze Fs i v w→R w w'→Ze Fs i v w') (hj:Ph 0 w0.drew)
  (hs:Vi R Ph P all.toArray (all.take n) Q (Ze Fs) a0 w0 (all.take n) los hg incs 0)
  (he:∀ vs w,R w0 w→Ph keys.length w→Zc (Ze Fs) vs w 0 n→wpList P all.toArray Q (all.drop n) (putAll (all.take n) 0 vs a0) w):(Code.region id all.toArray true).wp P Q a0 w0:=by
 refine wp_region_any hm ?_;have hc:(all.take n).length=n:=by rw[List.length_take];omega
 have ha:all.take n++all.drop n=all:=List.take_append_drop n all;have e:=Xl (Yw (all.take n) a0) a0 (all.take n) 0 (fun i o d hi hh=>by simp only[Yw,Nat.zero_add,hi,Option.bind_some,hh]);have h:=QS (l:=all.take n) (t0:=all.drop n) (P:=P) (Q:=Q) (F:=Ze Fs) (a0:=a0) (w0:=w0) (by rw[ha,hc];exact hk) hp hF hd (by rw[ha];exact hb) (by rw[ha,hc];exact hf) (by rw[ha];exact hs) (by rw[ha,hc];exact he)
  all.length (Array.replicate all.length false) (Yw (all.take n) a0) { w0 with drawn:=w0.drawn+1 } (by rw[ha];simp) (by rw[ha];exact Nat.le_trans (List.length_filter_le _ _) (by simp)) hq
  (by
   have:ZY keys (Array.replicate all.length false)=0:=by
    unfold ZY;rw[List.countP_eq_zero];intro k _;simp[Array.getD_eq_getD_getElem?,Array.getElem?_replicate];split<;>rfl
   rw[this];exact hj)
  (fun i o ho hl=>by
   have hi:i<all.length:=by rw[←ha];exact (List.getElem?_eq_some_iff.1 ho).1
   simp[Array.getD_eq_getD_getElem?,hi]at hl)
  (fun i hi hl=>by
   have:i<all.length:=by omega
   simp[Array.getD_eq_getD_getElem?,this]at hl)
  (fun i _ hi=>by
   rw[ha]at hi;simp[Array.getD_eq_getD_getElem?,hi])
 rw[e,ha]at h;simpa using h
def Yi (S:Nat→Prop) (F:Value→World→Prop):Prop:=∀ v w w',F v w→Turn S w w'→F v w'
def WF (S:Nat→Prop):List (Value→World→Prop)→Prop
 | []=>True
 | f::r=>Yi S f∧WF S r
theorem WK {S : Nat→Prop}:∀ (l:List (Value→World→Prop)),WF S l→∀ i v w w',Ze l i v w→Turn S w w'→Ze l i v w'
 | [],_,_,_,_,_,h,_=>h
 | _::_,hl,0,v,w,w',h,t=>hl.1 v w w' h t
 | _::r,hl,i+1,v,w,w',h,t=>WK r hl.2 i v w w' h t
theorem Is.stableT (S:Nat→Prop) (x:Value):Yi S (Is x):=fun _ _ _ h _=>h
theorem Yp {P : Program} {Q : Exit→Act→World→Prop} {all:List Oper} {a0:Act} {w0:World} {id:Nat} (n:Nat) (keys los ha incs:List Nat) (S:Nat→Prop) (Ph:Nat→World→Prop) (hm:P.follows .mixedOrders=true)
  (hd:ZU (all.take n)=true) (hb:ZX all 0=true) (hf:Y4 all n=true) (hn:n≤all.length) (hg:XD all n keys los ha incs=true) (Fs:List (Value→World→Prop)) (hF:WF S Fs) (hc:Ph 0 w0.drew)
  (hs:Vi (Turn S) Ph P all.toArray (all.take n) Q (Ze Fs) a0 w0 (all.take n) los ha incs 0)
  (he:∀ vs w,Turn S w0 w→Ph keys.length w→Zc (Ze Fs) vs w 0 n→wpList P all.toArray Q (all.drop n) (putAll (all.take n) 0 vs a0) w):(Code.region id all.toArray true).wp P Q a0 w0:=
 VC n keys los ha incs (Turn S) Ph (fun _ _ _=>Turn.trans) (Turn.since (Since.refl _).drew) hm hd hb hf hn hg Fs (WK Fs hF) hc hs he
set_option linter.unusedVariables false
section
variable {p q:Ym} {ans:List Int}
theorem Vr (f:Nat) (s:St) (b:Yb) (x:PlV) (r:List PlV):ZW p ans (f+1) s b (x::r)=match stepM x.m ans s with
  | (some t,s')=>⟨2,t,s',f⟩
  | (none,s')=>ZW p ans f s' b r:=rfl
theorem Vq:∀ (f:Nat) (s:St) (b:Yb) (l:List PlV),(ZW p ans f s b l).e≠3→∀ d,ZW p ans (f+d) s b l={ ZW p ans f s b l with left:=(ZW p ans f s b l).left+d }
 | 0,s,b,l,h,_=>absurd rfl (by unfold ZW at h;exact h)
 | f+1,s,b,x::r,h,d=>by
  rw[show f+1+d=(f+d)+1 from by omega]
  unfold ZW at h ⊢
  cases e:stepM x.m ans s with
  | mk o s' =>
   rw[e]at h
   cases o with
   | some t=>rfl
   | none=>exact Vq f s' b r h d
 | f+1,s,b,[],h,d=>by
  rw[show f+1+d=(f+d)+1 from by omega]
  unfold ZW at h ⊢
  by_cases h8:b.fin.op=8
  ·rw[if_pos h8,if_pos h8]
  ·rw[if_neg h8]at h
   rw[if_neg h8,if_neg h8]
   by_cases h7:b.fin.op=7
   ·rw[if_pos h7,if_pos h7]
   ·rw[if_neg h7]at h
    rw[if_neg h7,if_neg h7]
    cases e:p.blocks[(b.fin.to.getD (goes b.fin s.regs) 0).toNat]? with
    | none=>rfl
    | some b' =>
     rw[e]at h
     exact Vq f s b' b'.ins h d
end
section
variable {p q:Ym} {ans:List Int} {S : Nat}
end
end Go.Proofs.YtkpbmbhejpmboaaGreat
