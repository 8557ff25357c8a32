import Derived.Test.YtimpddecdodddaaGreatSb10
namespace Go.Proofs.YtimpddecdodddaaGreat
open Go.RowKit
theorem zO {P:Prop} (h:P:=by
 cases hl:listed.getD i true with
 | true=>rfl
 | false =>
  exfalso
  have:i∈(List.range (l++t0).length).filter fun i=>!listed.getD i true:=by
   rw[List.mem_filter];exact⟨List.mem_range.2 (by omega),by simp[hl]⟩
  have:=List.length_pos_of_mem this;omega):P:=h
theorem qo {P:Prop} (h:P:=by simp only[List.getD_eq_getElem?_getD,List.getElem?_map,List.getElem?_range hz,Option.map_some,Option.getD_some];exact List.countP_mono_left fun k _ hA=>YX ht _ _ _ hA o hc hu):P:=h
theorem qL {P:Prop} (h:P:=by
 by_cases h:i<l.length
 ·exact h
 ·exfalso
  apply hy
  intro j hj;have:=XX hf ht hc (by omega) hu (i:=j) (by omega)
  rwa [Z4 (by omega)]at this):P:=h
theorem yh {P:Prop} (h:P:=by rw[hI];simp only[List.getD_eq_getElem?_getD,List.getElem?_map,List.getElem?_range hz,Option.map_some,Option.getD_some]):P:=h
theorem yV {P:Prop} (h:P:=by
 subst ha;have ht:n0+k<listed.size:=by omega
 simp[Array.getD_eq_getD_getElem?,ht]):P:=h
theorem jr {P:Prop} (h:P:=by rw[Z4 (by omega)];exact ihn e.on (by omega) (by omega)):P:=h
theorem jE {P:Prop} (h:P:=by exact fun i hi=>all (i+1) i (by omega) hi):P:=h
theorem j5 {P:Prop} (h:P:=by rw[ha];exact Nat.le_trans (List.length_filter_le _ _) (by simp)):P:=h
def Zdo (R:World→World→Prop) (F:Nat→Value→World→Prop) (i:Nat) (dst:Option Tmp) (a:Act) (w:World) (a':Act) (w':World):Prop:=∃ v,a'=a.put dst v∧F i v w'∧R w w'
def Zfj (R:World→World→Prop) (Q:Exit→Act→World→Prop) (F:Nat→Value→World→Prop) (i:Nat) (dst:Option Tmp) (a:Act) (w:World):Exit→Act→World→Prop
 | .normal,a',w'=>Zdo R F i dst a w a' w'
 | e,a',w'=>Q e a' w'
section
variable {P : Program} {Q : Exit→Act→World→Prop} {l : List Oper} {F : Nat→Value→World→Prop} {a0:Act} {w0:World} {R : World→World→Prop}
end
def Jk (R:World→World→Prop) (P:Program) (ops:Array Oper) (l:List Oper) (Q:Exit→Act→World→Prop) (F:Nat→Value→World→Prop) (a0:Act) (w0:World):List Oper→Nat→Prop
 | [],_=>True
 | o::r,k=>(∀ (vs:Nat→Value) (w:World),R w0 w→Zk F vs w o.after.toList→(∀ j,predB l k j=true→vs j=YT l a0 j) →
   wpList P ops (Zfj R Q F k o.dst (putAll l 0 vs a0) w) [o] (putAll l 0 vs a0) w)∧Jk R P ops l Q F a0 w0 r (k+1)
theorem Qc {R : World→World→Prop} {P : Program} {ops:Array Oper} {l0:List Oper} {Q : Exit→Act→World→Prop} {F : Nat→Value→World→Prop} {a0:Act} {w0:World}:∀ (l:List Oper) (k:Nat),Jk R P ops l0 Q F a0 w0 l k→∀ (i:Nat) (o:Oper),l[i]? = some o→ops[k+i]? = some o →
  ∀ (vs:Nat→Value) (w:World),R w0 w→Zk F vs w o.after.toList→(∀ j,predB l0 (k+i) j=true→vs j=YT l0 a0 j)→∀ K:Act→World→Prop,(∀ a' w',Zdo R F (k+i) o.dst (putAll l0 0 vs a0) w a' w'→K a' w') →
   wpOp P ops Q (k+i) K (putAll l0 0 vs a0) w
 | [],_,_,_,_,h,_=>by cases h
 | p::r,k,h,0,o,ho,hall=>by
  obtain rfl:p=o:=by simpa using ho
  intro vs w hw hk ha K hK
  have:=h.1 vs w hw hk ha
  unfold wpOp
  rw[hall]
  simp only[wpList]at this
  show if _ then _ else _
  split
  ·rename_i hwant
   rw[if_pos hwant]at this
   rcases this with this|⟨h1,h2⟩
   ·exact .inl (Oper.wp_turn (fun _ _ _ h=>h) (fun h=>h) (Oper.wp_mono (fun a' w' h=>hK a' w' h) this))
   ·exact .inr ⟨h1,h2⟩
  ·rename_i hwant
   rw[if_neg hwant]at this
   exact hK _ _ this
 | p::r,k,h,i+1,o,ho,hall=>by
  have:=Qc r (k+1) h.2 i o (by simpa using ho) kd
  rw[show k+1+i=k+(i+1) from by omega]at this
  exact this
def Xb (all:List Oper) (n:Nat):Bool:=
 (List.range all.length).all fun k=>decide (k<n)||(List.range k).all fun i=>predB all i k||XV all all.length i k
theorem XX {all:List Oper} {n : Nat} (hf:Xb all n=true) {listed:Array Bool} (hc:Vd all listed) {k : Nat} {o : Oper} (ho:all[k]? = some o) (hk:n≤k) (hp:∀ e∈o.after,Region.binds .any e=true→listed.getD e.on false=true) {i : Nat} (hi:i<k):listed.getD i false=true:=by
 unfold Xb at hf;rw[List.all_eq_true]at hf;have h1:=hf k (List.mem_range.2 (List.getElem?_eq_some_iff.1 ho).1);rw[Bool.or_eq_true,decide_eq_true_eq]at h1;rcases h1 with h1|h1
 ·omega
 rw[List.all_eq_true]at h1;have h2:=h1 i (List.mem_range.2 hi);rw[Bool.or_eq_true]at h2;rcases h2 with h2|h2
 ·unfold predB at h2;rw[ho]at h2;simp only[List.any_eq_true,Bool.and_eq_true,beq_iff_eq]at h2;obtain⟨e,he,ha,hb⟩:=h2;rw[←ha];exact hp e kD hb
 ·exact YX hc _ _ _ h2 o ho hp
section
variable {P : Program} {Q : Exit→Act→World→Prop} {l t0:List Oper} {F : Nat→Value→World→Prop} {a0:Act} {w0:World} {R : World→World→Prop}
theorem Z4 {listed:Array Bool} {i : Nat} (h:i<listed.size):listed.getD i false=listed.getD i true:=by
 rw[Array.getD_eq_getD_getElem?,Array.getD_eq_getD_getElem?,Array.getElem?_eq_getElem h];rfl
theorem JX {all:List Oper} {n0:Nat} (hb:Z1 all 0=true) (hv:all.drop n0=t0) (hf:Xb all n0=true):∀ (t:List Oper) (k:Nat),t0.drop k=t→n0+k≤all.length →
  ∀ (fuel:Nat) (listed:Array Bool) (a:Act) (w:World),listed.size=all.length→((List.range all.length).filter fun i=>!listed.getD i true).length≤fuel →
   (∀ i,i<n0+k→listed.getD i true=true)→(∀ i,n0+k≤i→i<all.length→listed.getD i true=false)→wpList P all.toArray Q t a w→wpAny P .any all.toArray Q fuel listed a w:=by
 intro t;induction t with
 | nil =>
  intro k hk hB fuel listed a w hx hC h1 h2 hw;have hE:all.length≤n0+k:=by
   have:(t0.drop k).length=0:=by rw[hk];rfl
   rw[←hv,List.length_drop,List.length_drop]at this;omega
  have hr:Region.ready .any all.toArray listed=[]:=by
   rw[List.eq_nil_iff_forall_not_mem];intro i hi;rw[mem_ready]at hi;obtain⟨h3,o,ho,_⟩:=hi;have hd:i<all.length:=by simpa using (Array.getElem?_eq_some_iff.1 ho).1
   rw[h1 i kT]at h3
   cases h3
  cases fuel with
  | zero=>exact⟨hr,hw⟩
  | succ fuel=>exact⟨fun _=>hw,fun i hi=>by rw[hr]at hi;cases hi⟩
 | cons o r ih =>
  intro k hk hB fuel listed a w hx hC h1 h2 hw;have hg:all[n0+k]? = some o:=by
   have e:(t0.drop k)[0]? = some o:=by rw[hk];rfl
   rw[←hv,List.drop_drop,List.getElem?_drop]at e;simpa using e
  have hd:n0+k<all.length:=(List.getElem?_eq_some_iff.1 hg).1;have hm:n0+k∈(List.range all.length).filter fun i=>!listed.getD i true:=by
   rw[List.mem_filter];exact⟨List.mem_range.2 hd,by rw[h2 _ (Nat.le_refl _) hd];rfl⟩
  have hD:=List.length_pos_of_mem hm
  cases fuel with
  | zero=>omega
  | succ fuel =>
   refine⟨fun hr=>?_,fun i hi=>?_⟩
   ·exfalso
    have:n0+k∈Region.ready .any all.toArray listed:=by
     rw[mem_ready];refine⟨h2 _ (Nat.le_refl _) hd,o,by simpa using hg,fun e he hu=>?_⟩;have:=Yn all 0 hb (n0+k) o hg e he hu;rw[Z4 kT];exact h1 _ kT
    exact jQ
   ·rw[mem_ready]at hi;obtain⟨h3,p,hp,hy⟩:=hi;have hl:all[i]? = some p:=by simpa using hp
    have hG:i<all.length:=(List.getElem?_eq_some_iff.1 hl).1;have hH:n0+k≤i:=by
     by_cases hz:i<n0+k
     ·rw[h1 i hz]at h3;cases h3
     ·omega
    obtain rfl:i=n0+k:=by
     by_cases he:i=n0+k
     ·exact he
     ·exfalso
      have hc:Vd all listed:=by
       intro j q hq hn e he hu;have hs:j<all.length:=(List.getElem?_eq_some_iff.1 hq).1;have hI:=Yn all 0 hb j q hq e he hu;rw[Z4 kT]at hn ⊢;by_cases hF:j<n0+k
       ·exact h1 _ kT
       ·rw[h2 j kT hs]at hn;cases hn
      have:=XX hf hc hl kT hy (i:=n0+k) kT;rw[Z4 kT,h2 _ (Nat.le_refl _) hd]at this
      cases this
    have:=hl.symm.trans hg
    cases this
    have hh:∀ a' w',wpList P all.toArray Q r a' w'→wpAny P .any all.toArray Q fuel (listed.setIfInBounds (n0+k) true) a' w':=by
     intro a' w' hA;refine ih (k+1) (by rw[←List.drop_drop,hk];rfl) kT fuel _ a' w' (by simpa using hx) ?_ ?_ ?_ hA
     ·have e2:((List.range all.length).filter fun j=>!(listed.setIfInBounds (n0+k) true).getD j true)=((List.range all.length).filter fun j=>!listed.getD j true).filter fun j=>j != n0+k:=by
       rw[List.filter_filter];refine List.filter_congr fun j hj=>?_
       by_cases ha:j=n0+k
       ·exact yV
       ·exact jG
      rw[e2];have:=(List.length_filter_lt_length_iff_exists (p:=fun j=>j != n0+k) (l:=(List.range all.length).filter fun j=>!listed.getD j true)).2 ⟨n0+k,hm,by simp⟩
      omega
     ·intro j hj;by_cases ha:j=n0+k
      ·exact yV
      ·rw[getD_set_ne _ (Ne.symm ha)];exact h1 j kT
     ·intro j hj hs;rw[getD_set_ne _ kT];exact h2 j kT hs
    unfold wpOp;rw[hp];simp only[wpList]at hw;show if _ then _ else _
    split
    ·rename_i hwant
     rw[if_pos hwant]at hw;rcases hw with hw|⟨g1,g2⟩
     ·exact .inl (Oper.wp_mono hh hw)
     ·exact .inr ⟨g1,g2⟩
    ·rename_i hwant
     rw[if_neg hwant]at hw;exact hh _ _ hw
theorem Zbi (hY:∀ a b c,R a b→R b c→R a c) (hF:∀ i v w w',F i v w→R w w'→F i v w') (hd:ZY l=true) (hb:Z1 (l++t0) 0=true) (hf:Xb (l++t0) l.length=true)
  (hs:Jk R P (l++t0).toArray l Q F a0 w0 l 0)
  (he:∀ vs w,R w0 w→Zc F vs w 0 l.length→wpList P (l++t0).toArray Q t0 (putAll l 0 vs a0) w) :
  ∀ (fuel:Nat) (listed:Array Bool) (vs:Nat→Value) (w:World),listed.size=(l++t0).length→((List.range (l++t0).length).filter fun i=>!listed.getD i true).length≤fuel→R w0 w→Vd (l++t0) listed→(∀ j,j<l.length→listed.getD j true=false→vs j=YT l a0 j) →
   (∀ i,i<l.length→listed.getD i true=true→F i (vs i) w)→(∀ i,l.length≤i→i<(l++t0).length→listed.getD i true=false)→wpAny P .any (l++t0).toArray Q fuel listed (putAll l 0 vs a0) w:=by
 have h0:l.length≤(l++t0).length:=by simp
 have hE:∀ (fuel:Nat) (listed:Array Bool) (vs:Nat→Value) (w:World),listed.size=(l++t0).length→((List.range (l++t0).length).filter fun i=>!listed.getD i true).length≤fuel→R w0 w→(∀ i,i<l.length→listed.getD i true=true) →
   (∀ i,i<l.length→listed.getD i true=true→F i (vs i) w)→(∀ i,l.length≤i→i<(l++t0).length→listed.getD i true=false)→wpAny P .any (l++t0).toArray Q fuel listed (putAll l 0 vs a0) w:=by
  intro fuel listed vs w hq hn hw hI hk hm;refine JX (n0:=l.length) (t0:=t0) hb kU hf t0 0 rfl kU fuel listed _ w hq hn (fun i hi=>hI i kT) (fun i hi hT=>hm i kT hT) ?_
  exact he vs w hw (XA F vs w _ 0 fun i _ hi=>hk i kT (hI i kT))
 have hR:∀ i o,i<l.length→(l++t0)[i]? = some o→l[i]? = some o:=fun i o hi h=>by rwa [List.getElem?_append_left hi]at h
 intro fuel;induction fuel with
 | zero =>
  intro listed vs w hq hn hw hB hy hk hm;refine hE 0 listed vs w hq hn hw (fun i hi=>?_) hk hm
  exact zO
 | succ fuel ih =>
  intro listed vs w hq hn hw hB hy hk hm;by_cases ht:∀ i,i<l.length→listed.getD i true=true
  ·exact hE (fuel+1) listed vs w hq hn hw ht hk hm
  ·refine⟨fun hr=>?_,fun i hi=>?_⟩
   ·exfalso
    apply ht
    have all:∀ (n i:Nat),i<n→i<l.length→listed.getD i true=true:=by
     intro n;induction n with
     | zero=>intro i h;omega
     | succ n ihn =>
      intro i h1 h2
      cases hl:listed.getD i true with
      | true=>rfl
      | false =>
       exfalso
       have:i∈Region.ready .any (l++t0).toArray listed:=by
        rw[mem_ready];have ho:(l++t0)[i]? = some l[i]:=by rw[List.getElem?_append_left h2];exact List.getElem?_eq_getElem h2
        refine⟨hl,l[i],by simpa using ho,fun e hH hW=>?_⟩;have hM:=Yn (l++t0) 0 hb i l[i] ho e hH hW;exact jr
       exact jQ
    exact jE
   ·rw[mem_ready]at hi;obtain⟨h1,o,ho,hu⟩:=hi;have hc:(l++t0)[i]? = some o:=by simpa using ho
    have hQ:i<(l++t0).length:=(List.getElem?_eq_some_iff.1 hc).1;have hM:i<l.length:=by
     by_cases h:i<l.length
     ·exact h
     ·exfalso
      apply ht
      intro j hj;have:=XX hf hB hc kT hu (i:=j) kT
      rwa [Z4 kT]at this
    have hL:=hR i o hM hc;have hJ:Zk F vs w o.after.toList:=by
     refine Wj F vs w _ fun e hH hC=>?_
     have hG:e∈o.after:=by simpa using hH
     have hZ:=Yn (l++t0) 0 hb i o hc e hG hC;have hS:e.on<l.length:=kT
     refine hk e.on hS ?_;rw[←Z4 kT];exact hu e hG hC
    have hz:=Qc l 0 hs i o hL kI vs w hw hJ (by
     intro j hj;rw[Nat.zero_add]at hj;unfold predB at hj
     cases hA:l[j]? with
     | none=>rw[hA]at hj;cases hj
     | some oj =>
      rw[hA]at hj;simp only[List.any_eq_true,Bool.and_eq_true,beq_iff_eq]at hj;obtain⟨e,he,hU,hV⟩:=hj;have hh:j<l.length:=(List.getElem?_eq_some_iff.1 hA).1;have hO:(l++t0)[j]? = some oj:=by rw[List.getElem?_append_left hh];exact hA
      refine hy j hh ?_;rw[←Z4 kT]
      cases hg:listed.getD j false with
      | false=>rfl
      | true =>
       have:=hB j oj hO hg e kD hV;rw[hU,Z4 kT,h1]at this;cases this)
    rw[Nat.zero_add]at hz;refine hz _ fun a' w' ⟨v,hX,hv,hK⟩=>?_
    subst hX;have e:=XN v l 0 vs a0 i o hL hd;rw[Nat.zero_add]at e;rw[←e];refine ih (listed.setIfInBounds i true) (upd vs i v) w' (by simpa using hq) ?_ (hY _ _ _ hw hK) ?_ ?_ ?_ ?_
    ·have e2:((List.range (l++t0).length).filter fun j=>!(listed.setIfInBounds i true).getD j true)=((List.range (l++t0).length).filter fun j=>!listed.getD j true).filter fun j=>j != i:=by
      rw[List.filter_filter];refine List.filter_congr fun j hj=>?_
      by_cases ha:j=i
      ·subst ha;have hD:j<listed.size:=kT
       simp[Array.getD_eq_getD_getElem?,hD]
      ·exact jG
     rw[e2];have hP:i∈(List.range (l++t0).length).filter fun j=>!listed.getD j true:=by
      rw[List.mem_filter];exact⟨List.mem_range.2 hQ,by simp[h1]⟩
     have:=(List.length_filter_lt_length_iff_exists (p:=fun j=>j != i) (l:=(List.range (l++t0).length).filter fun j=>!listed.getD j true)).2 ⟨i,hP,by simp⟩
     omega
    ·intro j p hp hh x hx hN;by_cases ha:j=i
     ·subst ha;have:=hc.symm.trans hp;cases this
      exact getD_set_true (hu x hx hN)
     ·rw[getD_set_ne _ (Ne.symm ha)]at hh;exact getD_set_true (hB j p hp hh x hx hN)
    ·intro j hj hg;by_cases ha:j=i
     ·subst ha;have hD:j<listed.size:=kT
      simp[Array.getD_eq_getD_getElem?,hD]at hg
     ·rw[Xo _ _ ha];rw[getD_set_ne _ (Ne.symm ha)]at hg;exact hy j hj hg
    ·intro j hj hg;by_cases ha:j=i
     ·subst ha;rw[Wh];exact hv
     ·rw[Xo _ _ ha];rw[getD_set_ne _ (Ne.symm ha)]at hg;exact hF _ _ _ _ (hk j hj hg) hK
    ·intro j hj hh;rw[getD_set_ne _ kT];exact hm j hj hh
end
theorem KQ {P : Program} {Q : Exit→Act→World→Prop} {all:List Oper} {a0:Act} {w0:World} {id:Nat} (n:Nat) (R:World→World→Prop) (hh:∀ a b c,R a b→R b c→R a c) (hj:R w0 w0.drew) (hm:P.follows .mixedOrders=true)
  (hd:ZY (all.take n)=true) (hb:Z1 all 0=true) (hf:Xb all n=true) (hn:n≤all.length) (Fs:List (Value→World→Prop)) (hF:∀ i v w w',Ze Fs i v w→R w w'→Ze Fs i v w')
  (hs:Jk R P all.toArray (all.take n) Q (Ze Fs) a0 w0 (all.take n) 0)
  (he:∀ vs w,R w0 w→Zc (Ze Fs) vs w 0 n→wpList P all.toArray Q (all.drop n) (putAll (all.take n) 0 vs a0) w):(Code.region id all.toArray true).wp P Q a0 w0:=by
 refine wp_region_any hm ?_;have hc:(all.take n).length=n:=by rw[List.length_take];omega
 have ha:all.take n++all.drop n=all:=List.take_append_drop n all;have e:=Xq (YT (all.take n) a0) a0 (all.take n) 0 (fun i o d hi hg=>by simp only[YT,Nat.zero_add,hi,Option.bind_some,hg]);have h:=Zbi (l:=all.take n) (t0:=all.drop n) (P:=P) (Q:=Q) (F:=Ze Fs) (a0:=a0) (w0:=w0) hh hF hd (by rw[ha];exact hb) (by rw[ha,hc];exact hf) (by rw[ha];exact hs) (by rw[ha,hc];exact he)
  all.length (Array.replicate all.length false) (YT (all.take n) a0) { w0 with drawn:=w0.drawn+1 } (by rw[ha];simp) j5 hj
  (fun i o ho hl=>by
   have hi:i<all.length:=by rw[←ha];exact (List.getElem?_eq_some_iff.1 ho).1
   simp[Array.getD_eq_getD_getElem?,hi]at hl)
  (fun _ _ _=>rfl)
  (fun i hi hl=>by
   have:i<all.length:=kT
   simp[Array.getD_eq_getD_getElem?,this]at hl)
  (fun i _ hi=>by
   rw[ha]at hi;simp[Array.getD_eq_getD_getElem?,hi])
 rw[e,ha]at h;simpa using h
theorem Zg {P : Program} {Q : Exit→Act→World→Prop} {all:List Oper} {a0:Act} {w0:World} {id:Nat} (n:Nat) (hm:P.follows .mixedOrders=true)
  (hd:ZY (all.take n)=true) (hb:Z1 all 0=true) (hf:Xb all n=true) (hn:n≤all.length) (Fs:List (Value→World→Prop)) (hF:WA Fs)
  (hs:Jk Since P all.toArray (all.take n) Q (Ze Fs) a0 w0 (all.take n) 0)
  (he:∀ vs w,Since w0 w→Zc (Ze Fs) vs w 0 n→wpList P all.toArray Q (all.drop n) (putAll (all.take n) 0 vs a0) w):(Code.region id all.toArray true).wp P Q a0 w0:=
 KQ n Since (fun _ _ _=>Since.trans) (Since.refl _).drew hm hd hb hf hn Fs (Wq Fs hF) hs he
def XK (all:List Oper) (n:Nat) (keys los his incs:List Nat):Bool:=
 los==(List.range n).map (loK all keys)&&his==(List.range n).map (hiK all keys)&&incs==(List.range n).map (fun i=>if keys.contains i then 1 else 0)&&decide keys.Nodup&&keys.all (fun k=>decide (k<n))
def VC (R:World→World→Prop) (Ph:Nat→World→Prop) (P:Program) (ops:Array Oper) (l:List Oper) (Q:Exit→Act→World→Prop) (F:Nat→Value→World→Prop) (a0:Act) (w0:World):List Oper→List Nat→List Nat→List Nat→Nat→Prop
 | o::r,lo::los,hi::his,inc::incs,k=>(∀ (p:Nat) (vs:Nat→Value) (w:World),lo≤p→p≤hi→R w0 w→Ph p w→Zk F vs w o.after.toList →
   wpList P ops (Zbl R Ph Q F k (p+inc) o.dst (putAll l 0 vs a0) w) [o] (putAll l 0 vs a0) w)∧VC R Ph P ops l Q F a0 w0 r los his incs (k+1)
 | _,_,_,_,_=>True
theorem Ka {R : World→World→Prop} {Ph:Nat→World→Prop} {P : Program} {ops:Array Oper} {l0:List Oper} {Q : Exit→Act→World→Prop} {F : Nat→Value→World→Prop} {a0:Act} {w0:World}:∀ (l:List Oper) (los ha incs:List Nat) (k:Nat),VC R Ph P ops l0 Q F a0 w0 l los ha incs k→los.length=l.length→ha.length=l.length→incs.length=l.length→∀ (i:Nat) (o:Oper),l[i]? = some o→ops[k+i]? = some o →
  ∀ (p:Nat) (vs:Nat→Value) (w:World),los.getD i 0≤p→p≤ha.getD i 0→R w0 w→Ph p w→Zk F vs w o.after.toList→∀ K:Act→World→Prop,(∀ a' w',QJ R Ph F (k+i) (p+incs.getD i 0) o.dst (putAll l0 0 vs a0) w a' w'→K a' w') →
   wpOp P ops Q (k+i) K (putAll l0 0 vs a0) w
 | [],_,_,_,_,_,_,_,_,_,_,h,_=>by cases h
 | _::_,[],_,_,_,_,h,_,_,_,_,_,_=>by simp at h
 | _::_,_::_,[],_,_,_,_,h,_,_,_,_,_=>by simp at h
 | _::_,_::_,_::_,[],_,_,_,_,h,_,_,_,_=>by simp at h
 | p::r,lo::los,hi::ha,inc::incs,k,h,_,_,_,0,o,ho,hall=>by
  obtain rfl:p=o:=by simpa using ho
  intro q vs w hc hd hw hb hk K hK
  have:=h.1 q vs w hc hd hw hb hk
  unfold wpOp
  rw[hall]
  simp only[wpList]at this
  show if _ then _ else _
  split
  ·rename_i hwant
   rw[if_pos hwant]at this
   rcases this with this|⟨h1,h2⟩
   ·exact .inl (Oper.wp_turn (fun _ _ _ h=>h) (fun h=>h) (Oper.wp_mono (fun a' w' h=>hK a' w' h) this))
   ·exact .inr ⟨h1,h2⟩
  ·rename_i hwant
   rw[if_neg hwant]at this
   exact hK _ _ this
 | p::r,lo::los,hi::ha,inc::incs,k,h,h1,h2,h3,i+1,o,ho,hall=>by
  have:=Ka r los ha incs (k+1) h.2 kE kF kG i o (by simpa using ho) kd
  rw[show k+1+i=k+(i+1) from by omega]at this
  exact this
section
variable {P : Program} {Q : Exit→Act→World→Prop} {l t0:List Oper} {F : Nat→Value→World→Prop} {a0:Act} {w0:World} {R : World→World→Prop} {Ph:Nat→World→Prop} {keys los his incs:List Nat}
theorem Zav (hC:XK (l++t0) l.length keys los his incs=true) (He:∀ a b c,R a b→R b c→R a c) (hF:∀ i v w w',F i v w→R w w'→F i v w') (hd:ZY l=true) (hb:Z1 (l++t0) 0=true) (hf:Xb (l++t0) l.length=true)
  (hs:VC R Ph P (l++t0).toArray l Q F a0 w0 l los his incs 0)
  (he:∀ vs w,R w0 w→Ph keys.length w→Zc F vs w 0 l.length→wpList P (l++t0).toArray Q t0 (putAll l 0 vs a0) w) :
  ∀ (fuel:Nat) (listed:Array Bool) (vs:Nat→Value) (w:World),listed.size=(l++t0).length→((List.range (l++t0).length).filter fun i=>!listed.getD i true).length≤fuel→R w0 w→Ph (ZZ keys listed) w→Vd (l++t0) listed →
   (∀ i,i<l.length→listed.getD i true=true→F i (vs i) w)→(∀ i,l.length≤i→i<(l++t0).length→listed.getD i true=false)→wpAny P .any (l++t0).toArray Q fuel listed (putAll l 0 vs a0) w:=by
 unfold XK at hC;simp only[Bool.and_eq_true,beq_iff_eq,decide_eq_true_eq,List.all_eq_true]at hC;obtain⟨⟨⟨⟨hL,hN⟩,hI⟩,hY⟩,hG⟩:=hC;have h7:l.length≤(l++t0).length:=by simp
 have hO:∀ (fuel:Nat) (listed:Array Bool) (vs:Nat→Value) (w:World),listed.size=(l++t0).length→((List.range (l++t0).length).filter fun i=>!listed.getD i true).length≤fuel→R w0 w→Ph (ZZ keys listed) w→(∀ i,i<l.length→listed.getD i true=true) →
   (∀ i,i<l.length→listed.getD i true=true→F i (vs i) w)→(∀ i,l.length≤i→i<(l++t0).length→listed.getD i true=false)→wpAny P .any (l++t0).toArray Q fuel listed (putAll l 0 vs a0) w:=by
  intro fuel listed vs w hq hn hw hh hD hk hm;have hS:ZZ keys listed=keys.length:=by
   unfold ZZ;rw[List.countP_eq_length];intro k hk;have hM:=hG k hk;rw[Z4 kT];exact hD k hM
  rw[hS]at hh;refine JX (n0:=l.length) (t0:=t0) hb kU hf t0 0 rfl kU fuel listed _ w hq hn (fun i hi=>hD i kT) (fun i hi hB=>hm i kT hB) ?_
  exact he vs w hw hh (XA F vs w _ 0 fun i _ hi=>hk i kT (hD i kT))
 have h4:∀ i o,i<l.length→(l++t0)[i]? = some o→l[i]? = some o:=fun i o hi h=>by rwa [List.getElem?_append_left hi]at h
 intro fuel;induction fuel with
 | zero =>
  intro listed vs w hq hn hw hh ht hk hm;refine hO 0 listed vs w hq hn hw hh (fun i hi=>?_) hk hm
  exact zO
 | succ fuel ih =>
  intro listed vs w hq hn hw hh ht hk hm;by_cases hy:∀ i,i<l.length→listed.getD i true=true
  ·exact hO (fuel+1) listed vs w hq hn hw hh hy hk hm
  ·refine⟨fun hr=>?_,fun i hi=>?_⟩
   ·exfalso
    apply hy
    have all:∀ (n i:Nat),i<n→i<l.length→listed.getD i true=true:=by
     intro n;induction n with
     | zero=>intro i h;omega
     | succ n ihn =>
      intro i h1 h2
      cases hl:listed.getD i true with
      | true=>rfl
      | false =>
       exfalso
       have:i∈Region.ready .any (l++t0).toArray listed:=by
        rw[mem_ready];have ho:(l++t0)[i]? = some l[i]:=by rw[List.getElem?_append_left h2];exact List.getElem?_eq_getElem h2
        refine⟨hl,l[i],by simpa using ho,fun e hQ hC=>?_⟩;have hz:=Yn (l++t0) 0 hb i l[i] ho e hQ hC;exact jr
       exact jQ
    exact jE
   ·rw[mem_ready]at hi;obtain⟨h1,o,ho,hu⟩:=hi;have hc:(l++t0)[i]? = some o:=by simpa using ho
    have h0:i<(l++t0).length:=(List.getElem?_eq_some_iff.1 hc).1;have hz:i<l.length:=by
     exact qL
    have hU:=h4 i o hz hc;have hR:Zk F vs w o.after.toList:=by
     refine Wj F vs w _ fun e hQ hK=>?_
     have hP:e∈o.after:=by simpa using hQ
     have Hf:=Yn (l++t0) 0 hb i o hc e hP hK;have h5:e.on<l.length:=kT
     refine hk e.on h5 ?_;rw[←Z4 kT];exact hu e hP hK
    have hB:listed.getD i false=false:=by rw[Z4 kT];exact h1
    have h6:los.getD i 0≤ZZ keys listed:=by
     rw[hL];exact qo
    have Ha:ZZ keys listed≤his.getD i 0:=by
     rw[hN];simp only[List.getD_eq_getElem?_getD,List.getElem?_map,List.getElem?_range hz,Option.map_some,Option.getD_some];refine List.countP_mono_left fun k h8 hA=>?_
     simp only[Bool.and_eq_true,Bool.not_eq_true',beq_eq_false_iff_ne];refine⟨?_,fun e=>by rw[e,hB]at hA;cases hA⟩
     cases Hb:XV (l++t0) (l++t0).length i k with
     | false=>rfl
     | true =>
      exfalso
      have hM:k<(l++t0).length:=Nat.lt_of_lt_of_le (hG k h8) h7;have hV:(l++t0)[k]? = some (l++t0)[k]:=List.getElem?_eq_getElem hM;have:=YX ht _ _ _ Hb _ hV (ht k _ hV hA);rw[hB]at this;cases this
    have h3:incs.getD i 0=if keys.contains i then 1 else 0:=by
     exact yh
    have hE:=Ka l los his incs 0 hs (by rw[hL];simp) (by rw[hN];simp) (by rw[hI];simp) i o hU kI (ZZ keys listed) vs w h6 Ha hw hh hR;rw[Nat.zero_add]at hE;refine hE _ fun a' w' ⟨v,Hc,hv,hT,hg⟩=>?_
    subst Hc;have e:=XN v l 0 vs a0 i o hU hd;rw[Nat.zero_add]at e;rw[←e];refine ih (listed.setIfInBounds i true) (upd vs i v) w' (by simpa using hq) ?_ (He _ _ _ hw hT) ?_ ?_ ?_ ?_
    ·have e2:((List.range (l++t0).length).filter fun j=>!(listed.setIfInBounds i true).getD j true)=((List.range (l++t0).length).filter fun j=>!listed.getD j true).filter fun j=>j != i:=by
      rw[List.filter_filter];refine List.filter_congr fun j hj=>?_
      by_cases ha:j=i
      ·subst ha;have h9:j<listed.size:=kT
       simp[Array.getD_eq_getD_getElem?,h9]
      ·exact jG
     rw[e2];have hZ:i∈(List.range (l++t0).length).filter fun j=>!listed.getD j true:=by
      rw[List.mem_filter];exact⟨List.mem_range.2 h0,by simp[h1]⟩
     have:=(List.length_filter_lt_length_iff_exists (p:=fun j=>j != i) (l:=(List.range (l++t0).length).filter fun j=>!listed.getD j true)).2 ⟨i,hZ,by simp⟩
     omega
    ·rw[h3]at hg;by_cases hJ:i∈keys
     ·rw[WP kT hB hY hJ];rw[if_pos (by simpa using hJ)]at hg;exact hg
     ·rw[WO hJ];rw[if_neg (by simpa using hJ)]at hg;exact hg
    ·intro j p hp hH x hx hX;by_cases ha:j=i
     ·subst ha;have:=hc.symm.trans hp;cases this
      exact getD_set_true (hu x hx hX)
     ·rw[getD_set_ne _ (Ne.symm ha)]at hH;exact getD_set_true (ht j p hp hH x hx hX)
    ·intro j hj hW;by_cases ha:j=i
     ·subst ha;rw[Wh];exact hv
     ·rw[Xo _ _ ha];rw[getD_set_ne _ (Ne.symm ha)]at hW;exact hF _ _ _ _ (hk j hj hW) hT
    ·intro j hj hH;rw[getD_set_ne _ kT];exact hm j hj hH
end
theorem V0 {P : Program} {Q : Exit→Act→World→Prop} {all:List Oper} {a0:Act} {w0:World} {id:Nat} (n:Nat) (keys los hg incs:List Nat) (R:World→World→Prop) (Ph:Nat→World→Prop) (hp:∀ a b c,R a b→R b c→R a c) (hq:R w0 w0.drew) (hm:P.follows .mixedOrders=true)
  (hd:ZY (all.take n)=true) (hb:Z1 all 0=true) (hf:Xb all n=true) (hn:n≤all.length) (hk:XK all n keys los hg incs=true) (Fs:List (Value→World→Prop)) (hF:∀ i v w w',Ze Fs i v w→R w w'→Ze Fs i v w') (hj:Ph 0 w0.drew)
  (hs:VC R Ph P all.toArray (all.take n) Q (Ze Fs) a0 w0 (all.take n) los hg incs 0)
  (he:∀ vs w,R w0 w→Ph keys.length w→Zc (Ze Fs) vs w 0 n→wpList P all.toArray Q (all.drop n) (putAll (all.take n) 0 vs a0) w):(Code.region id all.toArray true).wp P Q a0 w0:=by
 refine wp_region_any hm ?_;have hc:(all.take n).length=n:=by rw[List.length_take];omega
 have ha:all.take n++all.drop n=all:=List.take_append_drop n all;have e:=Xq (YT (all.take n) a0) a0 (all.take n) 0 (fun i o d hi hh=>by simp only[YT,Nat.zero_add,hi,Option.bind_some,hh]);have h:=Zav (l:=all.take n) (t0:=all.drop n) (P:=P) (Q:=Q) (F:=Ze Fs) (a0:=a0) (w0:=w0) (by rw[ha,hc];exact hk) hp hF hd (by rw[ha];exact hb) (by rw[ha,hc];exact hf) (by rw[ha];exact hs) (by rw[ha,hc];exact he)
  all.length (Array.replicate all.length false) (YT (all.take n) a0) { w0 with drawn:=w0.drawn+1 } (by rw[ha];simp) j5 hq
  (by
   have:ZZ keys (Array.replicate all.length false)=0:=by
    unfold ZZ;rw[List.countP_eq_zero];intro k _;simp[Array.getD_eq_getD_getElem?,Array.getElem?_replicate];split<;>rfl
   rw[this];exact hj)
  (fun i o ho hl=>by
   have hi:i<all.length:=by rw[←ha];exact (List.getElem?_eq_some_iff.1 ho).1
   simp[Array.getD_eq_getD_getElem?,hi]at hl)
  (fun i hi hl=>by
   have:i<all.length:=kT
   simp[Array.getD_eq_getD_getElem?,this]at hl)
  (fun i _ hi=>by
   rw[ha]at hi;simp[Array.getD_eq_getD_getElem?,hi])
 rw[e,ha]at h;simpa using h
def Yg (S:Nat→Prop) (F:Value→World→Prop):Prop:=∀ v w w',F v w→Turn S w w'→F v w'
def WS (S:Nat→Prop):List (Value→World→Prop)→Prop
 | []=>True
 | f::r=>Yg S f∧WS S r
theorem WY {S : Nat→Prop}:∀ (l:List (Value→World→Prop)),WS S l→∀ i v w w',Ze l i v w→Turn S w w'→Ze l i v w'
 | [],_,_,_,_,_,h,_=>h
 | _::_,hl,0,v,w,w',h,t=>hl.1 v w w' h t
 | _::r,hl,i+1,v,w,w',h,t=>WY r hl.2 i v w w' h t
theorem Is.stableT (S:Nat→Prop) (x:Value):Yg S (Is x):=fun _ _ _ h _=>h
theorem Any.stableT (S:Nat→Prop):Yg S Any:=fun _ _ _ h _=>h
theorem Ys {P : Program} {Q : Exit→Act→World→Prop} {all:List Oper} {a0:Act} {w0:World} {id:Nat} (n:Nat) (keys los ha incs:List Nat) (S:Nat→Prop) (Ph:Nat→World→Prop) (hm:P.follows .mixedOrders=true)
  (hd:ZY (all.take n)=true) (hb:Z1 all 0=true) (hf:Xb all n=true) (hn:n≤all.length) (hg:XK all n keys los ha incs=true) (Fs:List (Value→World→Prop)) (hF:WS S Fs) (hc:Ph 0 w0.drew)
  (hs:VC (Turn S) Ph P all.toArray (all.take n) Q (Ze Fs) a0 w0 (all.take n) los ha incs 0)
  (he:∀ vs w,Turn S w0 w→Ph keys.length w→Zc (Ze Fs) vs w 0 n→wpList P all.toArray Q (all.drop n) (putAll (all.take n) 0 vs a0) w):(Code.region id all.toArray true).wp P Q a0 w0:=
 V0 n keys los ha incs (Turn S) Ph (fun _ _ _=>Turn.trans) (Turn.since (Since.refl _).drew) hm hd hb hf hn hg Fs (WY Fs hF) hc hs he
set_option linter.unusedVariables false
abbrev Key:Type:=Mach × Int
def key (x:PlV):Key:=(x.m,x.src)
noncomputable instance keyEq:DecidableEq Key:=Classical.typeDecidableEq _
section
variable (l:List PlV)
def kk (k:Fin l.length):Key:=key (l.get k)
end
end Go.Proofs.YtimpddecdodddaaGreat
