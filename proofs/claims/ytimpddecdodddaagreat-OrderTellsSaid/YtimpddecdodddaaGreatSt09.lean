import Derived.Test.YtimpddecdodddaaGreatSt05
namespace Go.Proofs.YtimpddecdodddaaGreat
open Go.Proofs.Tryz Go.RowKit Go.Lib
theorem zn {P:Prop} (h:P:=by
 go_enter func27,ntmps27
 go_wp2_with fail
 refine (hj.out _ (((Since.refl _).alloc _).alloc _)).mono ?_;rintro e w1 ⟨rfl,ha⟩;have hh:=fun i=>ha.cell (p:=⟨w.heap.size,i,none⟩) (by simp;omega)
 have hg:=fun i=>ha.cell (p:=⟨w.heap.size+1,i,none⟩) (by simp)
 have hf:=ha.size;simp only[World.size_alloc]at hf;have he:=hid ha;clear ha;go_wp2_with fail
 refine (ho.out _ ((((Since.refl w).alloc _).alloc _).trans he.out)).mono ?_;rintro e w2 ⟨rfl,hb⟩;have hn:=fun i=>(hb.cell (p:=⟨w.heap.size,i,none⟩) (by show w.heap.size<w1.heap.size;omega)).trans (hh i)
 have hm:=fun i=>(hb.cell (p:=⟨w.heap.size+1,i,none⟩) (by show w.heap.size+1<w1.heap.size;omega)).trans (hg i)
 have hD:w.heap.size+1<w2.heap.size:=by have:=hb.size;omega
 have hi:=hid (he.out.trans hb);clear hb hh hg hf;go_wp2
 go_ret3
 exact⟨by rw[HF.out];rfl,(((Since.refl w).alloc _).alloc _).trans hi.out⟩):P:=h
theorem zP {P:Prop} (h:P:=by
 cases hl:listed.getD i true with
 | true=>rfl
 | false =>
  exfalso
  have:i∈(List.range (l++t0).length).filter fun i=>!listed.getD i true:=by
   rw[List.mem_filter];exact⟨List.mem_range.2 (by omega),by simp[hl]⟩
  have:=List.length_pos_of_mem this;omega):P:=h
theorem qr {P:Prop} (h:P:=by
 rw[List.filter_filter];refine List.filter_congr fun j hj=>?_
 by_cases ha:j=i
 ·subst ha;have hc:j<listed.size:=by omega
  simp[Array.getD_eq_getD_getElem?,hc]
 ·rw[getD_set_ne _ (Ne.symm ha)];simp[ha]):P:=h
theorem qN {P:Prop} (h:P:=by
 have:=ih e.on (by omega) (by omega);have hc:e.on<listed.size:=by omega
 rw[Array.getD_eq_getD_getElem?,Array.getElem?_eq_getElem hc]at this ⊢;simpa using this):P:=h
theorem yJ {P:Prop} (h:P:=by
 have hc:i<listed.size:=by omega
 rw[Array.getD_eq_getD_getElem?,Array.getD_eq_getD_getElem?,Array.getElem?_eq_getElem hc];rfl):P:=h
theorem yK {P:Prop} (h:P:=by
 have hc:e.on<listed.size:=by omega
 rw[Array.getD_eq_getD_getElem?,Array.getElem?_eq_getElem hc]at this ⊢;simpa using this):P:=h
theorem jM {P:Prop} (h:P:=by
 subst ha;have ht:n0+k<listed.size:=by omega
 simp[Array.getD_eq_getD_getElem?,ht]):P:=h
theorem j9 {P:Prop} (h:P:=by rw[Z8 (by omega)];exact ihn e.on (by omega) (by omega)):P:=h
theorem kB {P:Prop} (h:P:=by exact fun i hi=>all (i+1) i (by omega) hi):P:=h
theorem kP {P:Prop} (h:P:=by repeat (first | exact trivial | refine⟨Is.stable _,?_⟩ | refine⟨Any.stable,?_⟩ | refine⟨Zo.stable _ _,?_⟩)):P:=h
theorem kV {P:Prop} (h:P:=by rw[ha];exact Nat.le_trans (List.length_filter_le _ _) (by simp)):P:=h
theorem kX {P:Prop} (h:P:=by repeat (first | exact trivial | refine⟨Is.stable _,?_⟩)):P:=h
theorem zs0 {P Q:Prop} (q:Q) (f:Q→P:=by
 intro zq hk;simp only[List.take,List.drop,putAll,Act.put,Zi,Zj,Is,List.setIfInBounds_toArray,List.set_cons_zero,List.set_cons_succ,Nat.reduceAdd]at hk ⊢;try simp only[hk]
 first | (revert hk;exact zq) | exact (show True→_ from zq) trivial):P:=f q
theorem zs1 {P Q:Prop} (q:Q) (f:Q→P:=by
 intro zq hk;simp only[List.take,putAll,Act.put,Zp,Zj,Is,List.setIfInBounds_toArray,List.set_cons_zero,List.set_cons_succ,Nat.reduceAdd]at hk ⊢;try simp only[hk]
 first | (revert hk;exact zq) | exact (show True→_ from zq) trivial):P:=f q
def Zcn (R:World→World→Prop) (F:Nat→Value→World→Prop) (i:Nat) (dst:Option Tmp) (a:Act) (w:World) (a':Act) (w':World):Prop:=∃ v,a'=a.put dst v∧F i v w'∧R w w'
def Zef (R:World→World→Prop) (Q:Exit→Act→World→Prop) (F:Nat→Value→World→Prop) (i:Nat) (dst:Option Tmp) (a:Act) (w:World):Exit→Act→World→Prop
 | .normal,a',w'=>Zcn R F i dst a w a' w'
 | e,a',w'=>Q e a' w'
def Qa (R:World→World→Prop) (P:Program) (all:Array Oper) (Q:Exit→Act→World→Prop) (F:Nat→Value→World→Prop) (a0:Act) (w0:World):List Oper→Nat→Prop
 | [],_=>True
 | o::r,k=>(∀ (vs:Nat→Value) (w:World),R w0 w→Zp F vs w o.after.toList→(∀ j,predB all.toList k j=true→vs j=Yj all.toList a0 j) →
   wpList P all (Zef R Q F k o.dst (putAll all.toList 0 vs a0) w) [o] (putAll all.toList 0 vs a0) w)∧Qa R P all Q F a0 w0 r (k+1)
theorem QE {R : World→World→Prop} {P : Program} {all:Array Oper} {Q : Exit→Act→World→Prop} {F : Nat→Value→World→Prop} {a0:Act} {w0:World}:∀ (l:List Oper) (k:Nat),Qa R P all Q F a0 w0 l k→∀ (i:Nat) (o:Oper),l[i]? = some o→all[k+i]? = some o →
  ∀ (vs:Nat→Value) (w:World),R w0 w→Zp F vs w o.after.toList→(∀ j,predB all.toList (k+i) j=true→vs j=Yj all.toList a0 j)→∀ K:Act→World→Prop,(∀ a' w',Zcn R F (k+i) o.dst (putAll all.toList 0 vs a0) w a' w'→K a' w') →
   wpOp P all Q (k+i) K (putAll all.toList 0 vs a0) w
 | [],_,_,_,_,h,_=>by cases h
 | p::r,k,h,0,o,ho,hall=>by
  obtain rfl:p=o:=by simpa using ho
  intro vs w hw hk ha K hK
  have:=h.1 vs w hw hk ha
  unfold wpOp
  rw[hall]
  simp only[wpList]at this
  show if _ then _ else _
  split
  ·rename_i hwant
   rw[if_pos hwant]at this
   rcases this with this|⟨h1,h2⟩
   ·exact .inl (Oper.wp_turn (fun _ _ _ h=>h) (fun h=>h) (Oper.wp_mono (fun a' w' h=>hK a' w' h) this))
   ·exact .inr ⟨h1,h2⟩
  ·rename_i hwant
   rw[if_neg hwant]at this
   exact hK _ _ this
 | p::r,k,h,i+1,o,ho,hall=>by
  have:=QE r (k+1) h.2 i o zaB kZ
  rw[show k+1+i=k+(i+1) from by omega]at this
  exact this
section
variable {P : Program} {Q : Exit→Act→World→Prop} {l : List Oper} {F : Nat→Value→World→Prop} {a0:Act} {w0:World} {R : World→World→Prop}
theorem Zch (hQ:∀ a b c,R a b→R b c→R a c) (hF:∀ i v w w',F i v w→R w w'→F i v w') (hd:ZU l=true) (hb:ZW l 0=true)
  (hs:Qa R P l.toArray Q F a0 w0 l 0)
  (he:∀ vs w,R w0 w→Zi F vs w 0 l.length→Q .normal (putAll l 0 vs a0) w) :
  ∀ (fuel:Nat) (listed:Array Bool) (vs:Nat→Value) (w:World),listed.size=l.length→((List.range l.length).filter fun i=>!listed.getD i true).length≤fuel→R w0 w→Ws l listed→(∀ j,j<l.length→listed.getD j true=false→vs j=Yj l a0 j) →
   (∀ i,i<l.length→listed.getD i true=true→F i (vs i) w)→wpAny P .any l.toArray Q fuel listed (putAll l 0 vs a0) w:=by
 have hC:∀ (listed:Array Bool) (vs:Nat→Value) (w:World),listed.size=l.length→Region.ready .any l.toArray listed=[]→R w0 w →
   (∀ i,i<l.length→listed.getD i true=true→F i (vs i) w)→Q .normal (putAll l 0 vs a0) w:=by
  intro listed vs w hf hr hw hk;refine he vs w hw (Xk F vs w _ 0 fun i _ hi=>hk i zaK ?_)
  have all:∀ (n i:Nat),i<n→i<l.length→listed.getD i true=true:=by
   intro n;induction n with
   | zero=>intro i h;omega
   | succ n ih =>
    intro i h1 h2
    cases hl:listed.getD i true with
    | true=>rfl
    | false =>
     exfalso
     have:i∈Region.ready .any l.toArray listed:=by
      rw[mem_ready];have ho:l[i]? = some l[i]:=List.getElem?_eq_getElem h2;refine⟨hl,l[i],by simp,fun e hE hO=>?_⟩;have hm:=Z4 l 0 hb i l[i] ho e hE hO;exact qN
     exact kL
  exact all (i+1) i zaK zaK
 have hu:∀ (listed:Array Bool) (i:Nat),listed.size=l.length→i<l.length→listed.getD i false=listed.getD i true:=by
  intro listed i hf hi;exact yJ
 intro fuel;induction fuel with
 | zero =>
  intro listed vs w hf hn hw _ _ hk;have hr:Region.ready .any l.toArray listed=[]:=by
   exact zD
  exact⟨hr,hC listed vs w hf hr hw hk⟩
 | succ fuel ih =>
  intro listed vs w hf hn hw hI hB hk;refine⟨fun hr=>hC listed vs w hf hr hw hk,fun i hi=>?_⟩;rw[mem_ready]at hi;obtain⟨h1,o,ho,hA⟩:=hi;have hh:l[i]? = some o:=by simpa using ho
  have hm:i<l.length:=(List.getElem?_eq_some_iff.1 hh).1;have hG:Zp F vs w o.after.toList:=by
   refine Wd F vs w _ fun e hE hz=>?_
   have hD:e∈o.after:=by simpa using hE
   have hR:=Z4 l 0 hb i o hh e hD hz;have hL:e.on<l.length:=zaK
   refine hk e.on hL ?_;have:=hA e hD hz;exact yK
  have ht:=QE l 0 hs i o hh (by simpa using hh) vs w hw hG (by
   intro j hj;rw[Nat.zero_add]at hj;change predB l i j=true at hj
   unfold predB at hj
   cases hy:l[j]? with
   | none=>rw[hy]at hj;cases hj
   | some oj =>
    rw[hy]at hj;simp only[List.any_eq_true,Bool.and_eq_true,beq_iff_eq]at hj;obtain⟨e,he,hM,hN⟩:=hj;have hq:j<l.length:=(List.getElem?_eq_some_iff.1 hy).1;refine hB j hq ?_;rw[←hu listed j hf hq]
    cases hg:listed.getD j false with
    | false=>rfl
    | true =>
     have:=hI j oj hy hg e zav hN;rw[hM,hu listed i hf hm,h1]at this;cases this)
  rw[Nat.zero_add]at ht;refine ht _ fun a' w' ⟨v,hP,hv,hH⟩=>?_
  subst hP;have e:=Xe v l 0 vs a0 i o hh hd;rw[Nat.zero_add]at e;rw[show l.toArray.toList=l from rfl,←e];refine ih (listed.setIfInBounds i true) (upd vs i v) w' zau ?_ (hQ _ _ _ hw hH) ?_ ?_ ?_
  ·have e2:((List.range l.length).filter fun j=>!(listed.setIfInBounds i true).getD j true)=((List.range l.length).filter fun j=>!listed.getD j true).filter fun j=>j != i:=by
    exact qr
   rw[e2];have hK:i∈(List.range l.length).filter fun j=>!listed.getD j true:=by
    rw[List.mem_filter];exact⟨List.mem_range.2 hm,by simp[h1]⟩
   have:=(List.length_filter_lt_length_iff_exists (p:=fun j=>j != i) (l:=(List.range l.length).filter fun j=>!listed.getD j true)).2 ⟨i,hK,by simp⟩
   omega
  ·intro j p hp hq x hx hJ;by_cases ha:j=i
   ·subst ha;have:=hh.symm.trans hp;cases this
    exact getD_set_true (hA x hx hJ)
   ·rw[getD_set_ne _ (Ne.symm ha)]at hq;exact getD_set_true (hI j p hp hq x hx hJ)
  ·intro j hj hg;by_cases ha:j=i
   ·subst ha;have hc:j<listed.size:=zaK
    simp[Array.getD_eq_getD_getElem?,hc]at hg
   ·rw[YS _ _ ha];rw[getD_set_ne _ (Ne.symm ha)]at hg;exact hB j hj hg
  ·intro j hj hg;by_cases ha:j=i
   ·exact kM
   ·rw[YS _ _ ha];rw[getD_set_ne _ (Ne.symm ha)]at hg;exact hF _ _ _ _ (hk j hj hg) hH
theorem Zaa {id:Nat} (R:World→World→Prop) (hc:∀ a b c,R a b→R b c→R a c) (hf:R w0 w0.drew) (hm:P.follows .mixedOrders=true) (hd:ZU l=true) (hb:ZW l 0=true) (F:Nat→Value→World→Prop) (hF:∀ i v w w',F i v w→R w w'→F i v w')
  (hs:Qa R P l.toArray Q F a0 w0 l 0)
  (he:∀ vs w,R w0 w→Zi F vs w 0 l.length→Q .normal (putAll l 0 vs a0) w):(Code.region id l.toArray true).wp P Q a0 w0:=by
 refine wp_region_any hm ?_;have e:=Y1 (Yj l a0) a0 l 0 (fun i o d hi ha=>by simp[Yj,hi,ha]);have h:=Zch hc hF hd hb hs he l.length (Array.replicate l.length false) (Yj l a0) { w0 with drawn:=w0.drawn+1 } zaL (Nat.le_trans (List.length_filter_le _ _) zaL) hf
  (fun i o ho hl=>by
   have hi:i<l.length:=(List.getElem?_eq_some_iff.1 ho).1;simp[Array.getD_eq_getD_getElem?,hi]at hl)
  (fun _ _ _=>rfl)
  (fun i hi hl=>by simp[Array.getD_eq_getD_getElem?,hi]at hl)
 rw[e]at h;simpa using h
end
def Jz (R:World→World→Prop) (P:Program) (ops:Array Oper) (l:List Oper) (Q:Exit→Act→World→Prop) (F:Nat→Value→World→Prop) (a0:Act) (w0:World):List Oper→Nat→Prop
 | [],_=>True
 | o::r,k=>(∀ (vs:Nat→Value) (w:World),R w0 w→Zp F vs w o.after.toList→(∀ j,predB l k j=true→vs j=Yj l a0 j) →
   wpList P ops (Zef R Q F k o.dst (putAll l 0 vs a0) w) [o] (putAll l 0 vs a0) w)∧Jz R P ops l Q F a0 w0 r (k+1)
theorem QD {R : World→World→Prop} {P : Program} {ops:Array Oper} {l0:List Oper} {Q : Exit→Act→World→Prop} {F : Nat→Value→World→Prop} {a0:Act} {w0:World}:∀ (l:List Oper) (k:Nat),Jz R P ops l0 Q F a0 w0 l k→∀ (i:Nat) (o:Oper),l[i]? = some o→ops[k+i]? = some o →
  ∀ (vs:Nat→Value) (w:World),R w0 w→Zp F vs w o.after.toList→(∀ j,predB l0 (k+i) j=true→vs j=Yj l0 a0 j)→∀ K:Act→World→Prop,(∀ a' w',Zcn R F (k+i) o.dst (putAll l0 0 vs a0) w a' w'→K a' w') →
   wpOp P ops Q (k+i) K (putAll l0 0 vs a0) w
 | [],_,_,_,_,h,_=>by cases h
 | p::r,k,h,0,o,ho,hall=>by
  obtain rfl:p=o:=by simpa using ho
  intro vs w hw hk ha K hK
  have:=h.1 vs w hw hk ha
  unfold wpOp
  rw[hall]
  simp only[wpList]at this
  show if _ then _ else _
  split
  ·rename_i hwant
   rw[if_pos hwant]at this
   rcases this with this|⟨h1,h2⟩
   ·exact .inl (Oper.wp_turn (fun _ _ _ h=>h) (fun h=>h) (Oper.wp_mono (fun a' w' h=>hK a' w' h) this))
   ·exact .inr ⟨h1,h2⟩
  ·rename_i hwant
   rw[if_neg hwant]at this
   exact hK _ _ this
 | p::r,k,h,i+1,o,ho,hall=>by
  have:=QD r (k+1) h.2 i o zaB kZ
  rw[show k+1+i=k+(i+1) from by omega]at this
  exact this
def Xc (all:List Oper) (n:Nat):Bool:=
 (List.range all.length).all fun k=>decide (k<n)||(List.range k).all fun i=>predB all i k||Xi all all.length i k
theorem Wb {all:List Oper} {n : Nat} (hf:Xc all n=true) {listed:Array Bool} (hc:Ws all listed) {k : Nat} {o : Oper} (ho:all[k]? = some o) (hk:n≤k) (hp:∀ e∈o.after,Region.binds .any e=true→listed.getD e.on false=true) {i : Nat} (hi:i<k):listed.getD i false=true:=by
 unfold Xc at hf;rw[List.all_eq_true]at hf;have h1:=hf k (List.mem_range.2 (List.getElem?_eq_some_iff.1 ho).1);rw[Bool.or_eq_true,decide_eq_true_eq]at h1;rcases h1 with h1|h1
 ·omega
 rw[List.all_eq_true]at h1;have h2:=h1 i (List.mem_range.2 hi);rw[Bool.or_eq_true]at h2;rcases h2 with h2|h2
 ·unfold predB at h2;rw[ho]at h2;simp only[List.any_eq_true,Bool.and_eq_true,beq_iff_eq]at h2;obtain⟨e,he,ha,hb⟩:=h2;rw[←ha];exact hp e zav hb
 ·exact YE hc _ _ _ h2 o ho hp
section
variable {P : Program} {Q : Exit→Act→World→Prop} {l t0:List Oper} {F : Nat→Value→World→Prop} {a0:Act} {w0:World} {R : World→World→Prop}
theorem Z8 {listed:Array Bool} {i : Nat} (h:i<listed.size):listed.getD i false=listed.getD i true:=by
 rw[Array.getD_eq_getD_getElem?,Array.getD_eq_getD_getElem?,Array.getElem?_eq_getElem h];rfl
theorem Kg {all:List Oper} {n0:Nat} (hb:ZW all 0=true) (hv:all.drop n0=t0) (hf:Xc all n0=true):∀ (t:List Oper) (k:Nat),t0.drop k=t→n0+k≤all.length →
  ∀ (fuel:Nat) (listed:Array Bool) (a:Act) (w:World),listed.size=all.length→((List.range all.length).filter fun i=>!listed.getD i true).length≤fuel →
   (∀ i,i<n0+k→listed.getD i true=true)→(∀ i,n0+k≤i→i<all.length→listed.getD i true=false)→wpList P all.toArray Q t a w→wpAny P .any all.toArray Q fuel listed a w:=by
 intro t;induction t with
 | nil =>
  intro k hk hB fuel listed a w hx hC h1 h2 hw;have hE:all.length≤n0+k:=by
   have:(t0.drop k).length=0:=by rw[hk];rfl
   rw[←hv,List.length_drop,List.length_drop]at this;omega
  have hr:Region.ready .any all.toArray listed=[]:=by
   rw[List.eq_nil_iff_forall_not_mem];intro i hi;rw[mem_ready]at hi;obtain⟨h3,o,ho,_⟩:=hi;have hd:i<all.length:=by simpa using (Array.getElem?_eq_some_iff.1 ho).1
   rw[h1 i zaK]at h3
   cases h3
  cases fuel with
  | zero=>exact⟨hr,hw⟩
  | succ fuel=>exact⟨fun _=>hw,fun i hi=>by rw[hr]at hi;cases hi⟩
 | cons o r ih =>
  intro k hk hB fuel listed a w hx hC h1 h2 hw;have hg:all[n0+k]? = some o:=by
   have e:(t0.drop k)[0]? = some o:=by rw[hk];rfl
   rw[←hv,List.drop_drop,List.getElem?_drop]at e;simpa using e
  have hd:n0+k<all.length:=(List.getElem?_eq_some_iff.1 hg).1;have hm:n0+k∈(List.range all.length).filter fun i=>!listed.getD i true:=by
   rw[List.mem_filter];exact⟨List.mem_range.2 hd,by rw[h2 _ (Nat.le_refl _) hd];rfl⟩
  have hD:=List.length_pos_of_mem hm
  cases fuel with
  | zero=>omega
  | succ fuel =>
   refine⟨fun hr=>?_,fun i hi=>?_⟩
   ·exfalso
    have:n0+k∈Region.ready .any all.toArray listed:=by
     rw[mem_ready];refine⟨h2 _ (Nat.le_refl _) hd,o,by simpa using hg,fun e he hu=>?_⟩;have:=Z4 all 0 hb (n0+k) o hg e he hu;rw[Z8 zaK];exact h1 _ zaK
    exact kL
   ·rw[mem_ready]at hi;obtain⟨h3,p,hp,hy⟩:=hi;have hl:all[i]? = some p:=by simpa using hp
    have hG:i<all.length:=(List.getElem?_eq_some_iff.1 hl).1;have hH:n0+k≤i:=by
     by_cases hz:i<n0+k
     ·rw[h1 i hz]at h3;cases h3
     ·omega
    obtain rfl:i=n0+k:=by
     by_cases he:i=n0+k
     ·exact he
     ·exfalso
      have hc:Ws all listed:=by
       intro j q hq hn e he hu;have hs:j<all.length:=(List.getElem?_eq_some_iff.1 hq).1;have hI:=Z4 all 0 hb j q hq e he hu;rw[Z8 zaK]at hn ⊢;by_cases hF:j<n0+k
       ·exact h1 _ zaK
       ·rw[h2 j zaK hs]at hn;cases hn
      have:=Wb hf hc hl zaK hy (i:=n0+k) zaK;rw[Z8 zaK,h2 _ (Nat.le_refl _) hd]at this
      cases this
    have:=hl.symm.trans hg
    cases this
    have hh:∀ a' w',wpList P all.toArray Q r a' w'→wpAny P .any all.toArray Q fuel (listed.setIfInBounds (n0+k) true) a' w':=by
     intro a' w' hA;refine ih (k+1) (by rw[←List.drop_drop,hk];rfl) zaK fuel _ a' w' (by simpa using hx) ?_ ?_ ?_ hA
     ·have e2:((List.range all.length).filter fun j=>!(listed.setIfInBounds (n0+k) true).getD j true)=((List.range all.length).filter fun j=>!listed.getD j true).filter fun j=>j != n0+k:=by
       rw[List.filter_filter];refine List.filter_congr fun j hj=>?_
       by_cases ha:j=n0+k
       ·exact jM
       ·exact kE
      rw[e2];have:=(List.length_filter_lt_length_iff_exists (p:=fun j=>j != n0+k) (l:=(List.range all.length).filter fun j=>!listed.getD j true)).2 ⟨n0+k,hm,by simp⟩
      omega
     ·intro j hj;by_cases ha:j=n0+k
      ·exact jM
      ·rw[getD_set_ne _ (Ne.symm ha)];exact h1 j zaK
     ·intro j hj hs;rw[getD_set_ne _ zaK];exact h2 j zaK hs
    unfold wpOp;rw[hp];simp only[wpList]at hw;show if _ then _ else _
    split
    ·rename_i hwant
     rw[if_pos hwant]at hw;rcases hw with hw|⟨g1,g2⟩
     ·exact .inl (Oper.wp_mono hh hw)
     ·exact .inr ⟨g1,g2⟩
    ·rename_i hwant
     rw[if_neg hwant]at hw;exact hh _ _ hw
theorem Zcg (hY:∀ a b c,R a b→R b c→R a c) (hF:∀ i v w w',F i v w→R w w'→F i v w') (hd:ZU l=true) (hb:ZW (l++t0) 0=true) (hf:Xc (l++t0) l.length=true)
  (hs:Jz R P (l++t0).toArray l Q F a0 w0 l 0)
  (he:∀ vs w,R w0 w→Zi F vs w 0 l.length→wpList P (l++t0).toArray Q t0 (putAll l 0 vs a0) w) :
  ∀ (fuel:Nat) (listed:Array Bool) (vs:Nat→Value) (w:World),listed.size=(l++t0).length→((List.range (l++t0).length).filter fun i=>!listed.getD i true).length≤fuel→R w0 w→Ws (l++t0) listed→(∀ j,j<l.length→listed.getD j true=false→vs j=Yj l a0 j) →
   (∀ i,i<l.length→listed.getD i true=true→F i (vs i) w)→(∀ i,l.length≤i→i<(l++t0).length→listed.getD i true=false)→wpAny P .any (l++t0).toArray Q fuel listed (putAll l 0 vs a0) w:=by
 have h0:l.length≤(l++t0).length:=by simp
 have hE:∀ (fuel:Nat) (listed:Array Bool) (vs:Nat→Value) (w:World),listed.size=(l++t0).length→((List.range (l++t0).length).filter fun i=>!listed.getD i true).length≤fuel→R w0 w→(∀ i,i<l.length→listed.getD i true=true) →
   (∀ i,i<l.length→listed.getD i true=true→F i (vs i) w)→(∀ i,l.length≤i→i<(l++t0).length→listed.getD i true=false)→wpAny P .any (l++t0).toArray Q fuel listed (putAll l 0 vs a0) w:=by
  intro fuel listed vs w hq hn hw hI hk hm;refine Kg (n0:=l.length) (t0:=t0) hb zaL hf t0 0 rfl zaL fuel listed _ w hq hn (fun i hi=>hI i zaK) (fun i hi hT=>hm i zaK hT) ?_
  exact he vs w hw (Xk F vs w _ 0 fun i _ hi=>hk i zaK (hI i zaK))
 have hR:∀ i o,i<l.length→(l++t0)[i]? = some o→l[i]? = some o:=fun i o hi h=>by rwa [List.getElem?_append_left hi]at h
 intro fuel;induction fuel with
 | zero =>
  intro listed vs w hq hn hw hB hy hk hm;refine hE 0 listed vs w hq hn hw (fun i hi=>?_) hk hm
  exact zP
 | succ fuel ih =>
  intro listed vs w hq hn hw hB hy hk hm;by_cases ht:∀ i,i<l.length→listed.getD i true=true
  ·exact hE (fuel+1) listed vs w hq hn hw ht hk hm
  ·refine⟨fun hr=>?_,fun i hi=>?_⟩
   ·exfalso
    apply ht
    have all:∀ (n i:Nat),i<n→i<l.length→listed.getD i true=true:=by
     intro n;induction n with
     | zero=>intro i h;omega
     | succ n ihn =>
      intro i h1 h2
      cases hl:listed.getD i true with
      | true=>rfl
      | false =>
       exfalso
       have:i∈Region.ready .any (l++t0).toArray listed:=by
        rw[mem_ready];have ho:(l++t0)[i]? = some l[i]:=by rw[List.getElem?_append_left h2];exact List.getElem?_eq_getElem h2
        refine⟨hl,l[i],by simpa using ho,fun e hH hW=>?_⟩;have hM:=Z4 (l++t0) 0 hb i l[i] ho e hH hW;exact j9
       exact kL
    exact kB
   ·rw[mem_ready]at hi;obtain⟨h1,o,ho,hu⟩:=hi;have hc:(l++t0)[i]? = some o:=by simpa using ho
    have hQ:i<(l++t0).length:=(List.getElem?_eq_some_iff.1 hc).1;have hM:i<l.length:=by
     by_cases h:i<l.length
     ·exact h
     ·exfalso
      apply ht
      intro j hj;have:=Wb hf hB hc zaK hu (i:=j) zaK
      rwa [Z8 zaK]at this
    have hL:=hR i o hM hc;have hJ:Zp F vs w o.after.toList:=by
     refine Wd F vs w _ fun e hH hC=>?_
     have hG:e∈o.after:=by simpa using hH
     have hZ:=Z4 (l++t0) 0 hb i o hc e hG hC;have hS:e.on<l.length:=zaK
     refine hk e.on hS ?_;rw[←Z8 zaK];exact hu e hG hC
    have hz:=QD l 0 hs i o hL zaz vs w hw hJ (by
     intro j hj;rw[Nat.zero_add]at hj;unfold predB at hj
     cases hA:l[j]? with
     | none=>rw[hA]at hj;cases hj
     | some oj =>
      rw[hA]at hj;simp only[List.any_eq_true,Bool.and_eq_true,beq_iff_eq]at hj;obtain⟨e,he,hU,hV⟩:=hj;have hh:j<l.length:=(List.getElem?_eq_some_iff.1 hA).1;have hO:(l++t0)[j]? = some oj:=by rw[List.getElem?_append_left hh];exact hA
      refine hy j hh ?_;rw[←Z8 zaK]
      cases hg:listed.getD j false with
      | false=>rfl
      | true =>
       have:=hB j oj hO hg e zav hV;rw[hU,Z8 zaK,h1]at this;cases this)
    rw[Nat.zero_add]at hz;refine hz _ fun a' w' ⟨v,hX,hv,hK⟩=>?_
    subst hX;have e:=Xe v l 0 vs a0 i o hL hd;rw[Nat.zero_add]at e;rw[←e];refine ih (listed.setIfInBounds i true) (upd vs i v) w' (by simpa using hq) ?_ (hY _ _ _ hw hK) ?_ ?_ ?_ ?_
    ·have e2:((List.range (l++t0).length).filter fun j=>!(listed.setIfInBounds i true).getD j true)=((List.range (l++t0).length).filter fun j=>!listed.getD j true).filter fun j=>j != i:=by
      rw[List.filter_filter];refine List.filter_congr fun j hj=>?_
      by_cases ha:j=i
      ·subst ha;have hD:j<listed.size:=zaK
       simp[Array.getD_eq_getD_getElem?,hD]
      ·exact kE
     rw[e2];have hP:i∈(List.range (l++t0).length).filter fun j=>!listed.getD j true:=by
      rw[List.mem_filter];exact⟨List.mem_range.2 hQ,by simp[h1]⟩
     have:=(List.length_filter_lt_length_iff_exists (p:=fun j=>j != i) (l:=(List.range (l++t0).length).filter fun j=>!listed.getD j true)).2 ⟨i,hP,by simp⟩
     omega
    ·intro j p hp hh x hx hN;by_cases ha:j=i
     ·subst ha;have:=hc.symm.trans hp;cases this
      exact getD_set_true (hu x hx hN)
     ·rw[getD_set_ne _ (Ne.symm ha)]at hh;exact getD_set_true (hB j p hp hh x hx hN)
    ·intro j hj hg;by_cases ha:j=i
     ·subst ha;have hD:j<listed.size:=zaK
      simp[Array.getD_eq_getD_getElem?,hD]at hg
     ·rw[YS _ _ ha];rw[getD_set_ne _ (Ne.symm ha)]at hg;exact hy j hj hg
    ·intro j hj hg;by_cases ha:j=i
     ·exact kM
     ·rw[YS _ _ ha];rw[getD_set_ne _ (Ne.symm ha)]at hg;exact hF _ _ _ _ (hk j hj hg) hK
    ·intro j hj hh;rw[getD_set_ne _ zaK];exact hm j hj hh
end
theorem Qm {P : Program} {Q : Exit→Act→World→Prop} {all:List Oper} {a0:Act} {w0:World} {id:Nat} (n:Nat) (R:World→World→Prop) (hh:∀ a b c,R a b→R b c→R a c) (hj:R w0 w0.drew) (hm:P.follows .mixedOrders=true)
  (hd:ZU (all.take n)=true) (hb:ZW all 0=true) (hf:Xc all n=true) (hn:n≤all.length) (Fs:List (Value→World→Prop)) (hF:∀ i v w w',Zj Fs i v w→R w w'→Zj Fs i v w')
  (hs:Jz R P all.toArray (all.take n) Q (Zj Fs) a0 w0 (all.take n) 0)
  (he:∀ vs w,R w0 w→Zi (Zj Fs) vs w 0 n→wpList P all.toArray Q (all.drop n) (putAll (all.take n) 0 vs a0) w):(Code.region id all.toArray true).wp P Q a0 w0:=by
 refine wp_region_any hm ?_;have hc:(all.take n).length=n:=by rw[List.length_take];omega
 have ha:all.take n++all.drop n=all:=List.take_append_drop n all;have e:=Y1 (Yj (all.take n) a0) a0 (all.take n) 0 (fun i o d hi hg=>by simp only[Yj,Nat.zero_add,hi,Option.bind_some,hg]);have h:=Zcg (l:=all.take n) (t0:=all.drop n) (P:=P) (Q:=Q) (F:=Zj Fs) (a0:=a0) (w0:=w0) hh hF hd (by rw[ha];exact hb) (by rw[ha,hc];exact hf) (by rw[ha];exact hs) (by rw[ha,hc];exact he)
  all.length (Array.replicate all.length false) (Yj (all.take n) a0) { w0 with drawn:=w0.drawn+1 } (by rw[ha];simp) kV hj
  (fun i o ho hl=>by
   have hi:i<all.length:=by rw[←ha];exact (List.getElem?_eq_some_iff.1 ho).1
   simp[Array.getD_eq_getD_getElem?,hi]at hl)
  (fun _ _ _=>rfl)
  (fun i hi hl=>by
   have:i<all.length:=zaK
   simp[Array.getD_eq_getD_getElem?,this]at hl)
  (fun i _ hi=>by
   rw[ha]at hi;simp[Array.getD_eq_getD_getElem?,hi])
 rw[e,ha]at h;simpa using h
theorem Zh {P : Program} {Q : Exit→Act→World→Prop} {all:List Oper} {a0:Act} {w0:World} {id:Nat} (n:Nat) (hm:P.follows .mixedOrders=true)
  (hd:ZU (all.take n)=true) (hb:ZW all 0=true) (hf:Xc all n=true) (hn:n≤all.length) (Fs:List (Value→World→Prop)) (hF:Wm Fs)
  (hs:Jz Since P all.toArray (all.take n) Q (Zj Fs) a0 w0 (all.take n) 0)
  (he:∀ vs w,Since w0 w→Zi (Zj Fs) vs w 0 n→wpList P all.toArray Q (all.drop n) (putAll (all.take n) 0 vs a0) w):(Code.region id all.toArray true).wp P Q a0 w0:=
 Qm n Since (fun _ _ _=>Since.trans) (Since.refl _).drew hm hd hb hf hn Fs (X8 Fs hF) hs he
set_option linter.unusedVariables false
set_option maxHeartbeats 4000000
set_option maxRecDepth 100000
def checkGo:List Zx→List Zx→Nat→Option (Nat × Nat)
 | p::ps,q::qs,j=>if (YD p q).2 then checkGo ps qs (j+1) else some (j,(YD p q).1)
 | _,_,_=>none
def Zah (p q:Z2):Bool:=p.params==q.params&&(p.k==q.k&&(p.slots==q.slots&&decide (p.blocks.length=q.blocks.length)))
def ZaX:Option (Nat × Nat)→Int × Nat × Nat
 | some (j,i)=>(50,j,i)
 | none=>(0,0,0)
def K0 (p q:Z2):Int × Nat × Nat:=
 if rightB p&&rightB q then if Zah p q then ZaX (checkGo p.blocks q.blocks 0) else (50,0,0) else (1,0,0)
def X4 (ps qs:List Zx) (k:Nat):Prop:=checkGo ps qs 0=checkGo (ps.drop k) (qs.drop k) k
theorem X4.start (ps qs:List Zx):X4 ps qs 0:=rfl
theorem X4.next {ps qs:List Zx} {k : Nat} {p q:Zx} (h:X4 ps qs k) (hp:ps[k]? = some p) (hq:qs[k]? = some q) (ho:(YD p q).2=true):X4 ps qs (k+1):=by
 unfold X4 at *;rw[h,List.drop_eq_getElem_cons (List.getElem?_eq_some_iff.1 hp).1,(List.getElem?_eq_some_iff.1 hp).2,List.drop_eq_getElem_cons (List.getElem?_eq_some_iff.1 hq).1,(List.getElem?_eq_some_iff.1 hq).2];show (if (YD p q).2 then _ else _)=_
 rw[if_pos ho]
theorem X4.bad {ps qs:List Zx} {k : Nat} {p q:Zx} (h:X4 ps qs k) (hp:ps[k]? = some p) (hq:qs[k]? = some q) (ho:(YD p q).2=false):checkGo ps qs 0=some (k,(YD p q).1):=by
 unfold X4 at h;rw[h,List.drop_eq_getElem_cons (List.getElem?_eq_some_iff.1 hp).1,(List.getElem?_eq_some_iff.1 hp).2,List.drop_eq_getElem_cons (List.getElem?_eq_some_iff.1 hq).1,(List.getElem?_eq_some_iff.1 hq).2];show (if (YD p q).2 then _ else _)=_
 rw[ho];rfl
theorem X4.done {ps qs:List Zx} (h:X4 ps qs ps.length):checkGo ps qs 0=none:=by
 unfold X4 at h;rw[h,List.drop_length];rfl
def CSt (w:World) (P Q:Array Value) (wr:World):Prop:=
 wr.heap[w.heap.size]? = some (.cells P 27 (0,0))∧wr.heap[w.heap.size+1]? = some (.cells Q 27 (0,0))∧Since w wr
theorem CSt.keep {w wr w2:World} {P Q:Array Value} (h:CSt w P Q wr) (s:Since wr w2):CSt w P Q w2:=
 ⟨(s.block _ (Z9 h.1)).trans h.1,(s.block _ (Z9 h.2.1)).trans h.2.1,h.2.2.trans s⟩
theorem Zdg (p q:Z2) (w:World) (hp:Xz w p) (hq:Xz w q):Calls prog 27 #[pv p,pv q] w (Zdl (K0 p q).1 ((K0 p q).2.1:Nat) ((K0 p q).2.2:Nat) w):=by
 have hu:=fun w2 (s:Since w w2)=>QJ p w2 (hp.keep s)
 have hr:=fun w2 (s:Since w w2)=>QJ q w2 (hq.keep s)
 unfold K0;obtain⟨R1,h8⟩:∃ x,rightB p=x:=⟨_,rfl⟩
 obtain⟨R2,h7⟩:∃ x,rightB q=x:=⟨_,rfl⟩
 rw[h8]at hu ⊢;rw[h7]at hr ⊢;clear h8 h7;obtain⟨pp,pk,ps,pl,pbv⟩:=p;obtain⟨qp,qk,qs,ql,qbv⟩:=q;obtain⟨hK,h2⟩:=hp;obtain⟨hI,h1⟩:=hq;dsimp only at hK h2 hI h1;obtain⟨pa,pc,rfl,Hg⟩:=hK.shape;obtain⟨qa,qc,rfl,Hf⟩:=hI.shape;obtain⟨pn,hJ⟩:∃ x,pl.length=x:=⟨_,rfl⟩
 obtain⟨qn,hH⟩:∃ x,ql.length=x:=⟨_,rfl⟩
 have Hj:=hid hK;have Hi:=hid hI;have Hb:=hid hJ;have Hh:=hid hH;unfold pv at hu hr;dsimp only at hu hr;rw[hJ]at hu h2;rw[hH]at hr h1;have hj:=hid hu;have ho:=hid hr;unfold pv Zah;dsimp only;rw[hJ,hH];clear hK hI hJ hH Hg Hf hu hr;obtain⟨E,hE⟩:∃ E,(if (R1&&R2)=true then if (pp==qp&&(pk==qk&&(ps==qs&&decide (pn=qn))))=true then ZaX (checkGo pl ql 0) else (50,0,0) else (1,0,0))=E:=⟨_,rfl⟩
 rw[hE];have HE:=hid hE;clear hE
 cases R1
 ·have HF:=zH (E=(1,0,0)) (by rw[←HE.out];rfl);go_enter func27,ntmps27
  go_wp2_with fail
  refine (hj.out _ (((Since.refl _).alloc _).alloc _)).mono ?_;rintro e w1 ⟨rfl,ha⟩;go_wp2
  go_ret3
  exact⟨by rw[HF.out];rfl,(((Since.refl _).alloc _).alloc _).trans ha⟩
 cases R2
 ·have HF:=zH (E=(1,0,0)) (by rw[←HE.out];rfl);go_enter func27,ntmps27
  go_wp2_with fail
  refine (hj.out _ (((Since.refl _).alloc _).alloc _)).mono ?_;rintro e w1 ⟨rfl,ha⟩;have hg:=fun i=>ha.cell (p:=⟨w.heap.size+1,i,none⟩) zaL
  have hf:=ha.size;simp only[World.size_alloc]at hf;have he:=hid ((((Since.refl w).alloc _).alloc _).trans ha);clear ha;go_wp2_with fail
  refine (ho.out _ he.out).mono ?_;rintro e w2 ⟨rfl,hb⟩;go_wp2
  go_ret3
  exact⟨by rw[HF.out];rfl,he.out.trans hb⟩
 cases e0:(pp==qp)
 ·have HF:=zH (E=(50,0,0)) (by rw[←HE.out,e0];rfl);have n0:(pp != qp)=true:=by rw[bne,e0];rfl
  clear e0;exact zn
 cases e1:(pk==qk)
 ·have HF:=zH (E=(50,0,0)) (by rw[←HE.out,e0,e1];rfl);have n0:(pp != qp)=false:=by rw[bne,e0];rfl
  have n1:(pk != qk)=true:=by rw[bne,e1];rfl
  clear e0 e1;exact zn
 cases e2:(ps==qs)
 ·have HF:=zH (E=(50,0,0)) (by rw[←HE.out,e0,e1,e2];rfl);have n0:(pp != qp)=false:=by rw[bne,e0];rfl
  have n1:(pk != qk)=false:=by rw[bne,e1];rfl
  have n2:(ps != qs)=true:=by rw[bne,e2];rfl
  clear e0 e1 e2;exact zn
 by_cases hl:pn=qn
 ·subst hl;have nl:((pn:Int) != (pn:Int))=false:=by simp
  have Hc:=zH (E=ZaX (checkGo pl ql 0)) (by rw[←HE.out,e0,e1,e2,decide_eq_true rfl];rfl);have n0:(pp != qp)=false:=by rw[bne,e0];rfl
  have n1:(pk != qk)=false:=by rw[bne,e1];rfl
  have n2:(ps != qs)=false:=by rw[bne,e2];rfl
  clear e0 e1 e2;go_enter func27,ntmps27
  go_wp2_with fail
  refine (hj.out _ (((Since.refl _).alloc _).alloc _)).mono ?_;rintro e w1 ⟨rfl,ha⟩;have hh:=fun i=>ha.cell (p:=⟨w.heap.size,i,none⟩) zaE
  have hg:=fun i=>ha.cell (p:=⟨w.heap.size+1,i,none⟩) zaL
  have hf:=ha.size;simp only[World.size_alloc]at hf;have he:=hid ha;clear ha;go_wp2_with fail
  refine (ho.out _ ((((Since.refl w).alloc _).alloc _).trans he.out)).mono ?_;rintro e w2 ⟨rfl,hb⟩;have hn:=fun i=>(hb.cell (p:=⟨w.heap.size,i,none⟩) (by show w.heap.size<w1.heap.size;omega)).trans (hh i)
  have hm:=fun i=>(hb.cell (p:=⟨w.heap.size+1,i,none⟩) (by show w.heap.size+1<w1.heap.size;omega)).trans (hg i)
  have hD:w.heap.size+1<w2.heap.size:=by have:=hb.size;omega
  have hi:=hid (he.out.trans hb);clear hb hh hg hf;have h0:CSt w #[.int .i64 pp,.int .i64 pk,.int .i64 ps,.slice pa pn pc] #[.int .i64 qp,.int .i64 qk,.int .i64 qs,.slice qa pn qc] w2:=⟨(hi.out.block _ zaE).trans ((((Since.refl _).alloc _).block _ zaL).trans (ZG _ _)),(hi.out.block _ zaL).trans (by have h:=ZG (w.alloc (.cells #[.int .i64 pp,.int .i64 pk,.int .i64 ps,.slice pa pn pc] 27)) (.cells #[.int .i64 qp,.int .i64 qk,.int .i64 qs,.slice qa pn qc] 27);rw[World.size_alloc]at h;exact h),(((Since.refl w).alloc _).alloc _).trans hi.out⟩;have Ha:=hid h0;clear h0 hj ho;go_wp2_with fail
  clear hn hm hD he hi
  go_loopw [49] (fun i wr=>∃ k:Nat,k≤pn∧i=.int .i64 k∧CSt w #[.int .i64 pp,.int .i64 pk,.int .i64 ps,.slice pa pn pc] #[.int .i64 qp,.int .i64 qk,.int .i64 qs,.slice qa pn qc] wr∧X4 pl ql k) (fun i _=>pn-(intOf i).toNat)
  case atStart=>exact⟨0,Nat.zero_le _,rfl,Ha.out,X4.start _ _⟩
  case round =>
   clear Ha;obtain⟨k,hk,rfl,hZ,h4⟩:=hrel;have hd:=hid hZ;have hU:=hid h4;clear hZ h4;by_cases h3:k<pn
   ·obtain⟨B,off,x,rfl,hB,hx,h6,hC⟩:=RowIn.at Hj.out (by rw[Hb.out];exact h3);obtain⟨B2,off2,y,rfl,h9,hy,h5,hA⟩:=RowIn.at Hi.out (by rw[Hh.out];exact h3);have hv:=fun w3 (s:Since w w3)=>Zcf x y w3 (BlkOk.keep _ _ _ hC s) (BlkOk.keep _ _ _ hA s)
    obtain⟨bp,hR⟩:∃ z,(YD x y).1=z:=⟨_,rfl⟩
    obtain⟨bo,hM⟩:∃ z,(YD x y).2=z:=⟨_,rfl⟩
    have hL:bo=true→X4 pl ql (k+1):=fun e=>hU.out.next hx hy (by rw[hM,e])
    have hS:bo=false→checkGo pl ql 0=some (k,bp):=fun e=>by rw[←hR];exact hU.out.bad hx hy (by rw[hM,e])
    rw[hR,hM]at hv;obtain⟨xi,xv,⟨xo,xa,xb,xt,xtv,xm⟩⟩:=x;obtain⟨yi,yv,⟨yo,ya,yb,yt,ytv,ym⟩⟩:=y;obtain⟨x1,x2,hX,_⟩:=hC.1.shape;obtain⟨y1,y2,hV,_⟩:=hA.1.shape;obtain⟨x3,x4,hY⟩:=Zc hC.2.1;obtain⟨y3,y4,hW⟩:=Zc hA.2.1;dsimp only at hX hV hY hW;subst hX;subst hV;subst hY;subst hW;unfold bkv at hv;dsimp only at hv;obtain⟨xn,hO⟩:∃ z,xi.length=z:=⟨_,rfl⟩
    obtain⟨yn,hN⟩:∃ z,yi.length=z:=⟨_,rfl⟩
    obtain⟨xtn,hG⟩:∃ z,xt.length=z:=⟨_,rfl⟩
    obtain⟨ytn,hF⟩:∃ z,yt.length=z:=⟨_,rfl⟩
    have hQ:∀ t v,(blcells { ins:=xi,insv:=.slice x1 xn x2,fin:={ op:=xo,a:=xa,b:=xb,to:=xt,tov:=.slice x3 xtn x4,imm:=xm } })[t]? = some v→w.cell? ⟨B,off+k*6+t,none⟩=some v:=fun t v ht=>(h6 t (by have:=(List.getElem?_eq_some_iff.1 ht).1;exact this)).trans (by rw[hO,hG];exact ht)
    have hP:∀ t v,(blcells { ins:=yi,insv:=.slice y1 yn y2,fin:={ op:=yo,a:=ya,b:=yb,to:=yt,tov:=.slice y3 ytn y4,imm:=ym } })[t]? = some v→w.cell? ⟨B2,off2+k*6+t,none⟩=some v:=fun t v ht=>(h5 t (by have:=(List.getElem?_eq_some_iff.1 ht).1;exact this)).trans (by rw[hN,hF];exact ht)
    rw[hO,hN,hG,hF]at hv;have Hl:=hid hv;have Hk:=hid hL;have Hm:=hid hS;have hz:=hid (fun w3 (s:Since w w3) t v (ht:_=some v)=>(s.cell (p:=⟨B,off+k*6+t,none⟩) hB).trans (hQ t v ht))
    have hw:=hid (fun w3 (s:Since w w3) t v (ht:_=some v)=>(s.cell (p:=⟨B2,off2+k*6+t,none⟩) h9).trans (hP t v ht))
    clear hv hL hS h6 h5 hQ hP hO hN hG hF hC hA hR hM hx hy;go_wp2_with fail
    refine Zh 15 rfl zaC zaC zaC zaJ
     [Is (.pointer (some ⟨w.heap.size,3,none⟩)),Is (.slice (some ⟨B,off,none⟩) pn pc),Is (.int .i64 k),Is (.pointer (some ⟨B,off+k*6,none⟩)),Is (.agg #[.slice x1 xn x2,.int .i64 xo,.int .i64 xa,.int .i64 xb,.slice x3 xtn x4,.int .i32 xm]),Is (.pointer (some ⟨w.heap.size+1,3,none⟩)),Is (.slice (some ⟨B2,off2,none⟩) pn qc),Is (.int .i64 k),Is (.pointer (some ⟨B2,off2+k*6,none⟩)),Is (.agg #[.slice y1 yn y2,.int .i64 yo,.int .i64 ya,.int .i64 yb,.slice y3 ytn y4,.int .i32 ym]),Is (.tuple #[.int .i64 (bp:Int),.bool bo]),Is (.tuple #[.int .i64 (bp:Int),.bool bo]),Is (.int .i64 (bp:Int)),Is (.bool bo),Is (.int .i64 (bp:Int))]
     kP ⟨?_,?_,?_,?_,?_,?_,?_,?_,?_,?_,?_,?_,?_,?_,?_,trivial⟩ ?_
    rotate_right
    ·intro vs w4 hs hk;revert hk;refine zs0 ?_;intro hk
     have hT:=hid (hd.out.keep hs);clear hs
     cases bo
     ·go_wp2
      go_ret3
      exact⟨by rw[Hc.out,Hm.out (by trivial)];rfl,hT.out.2.2⟩
     ·go_wp2
      go_roundw
      case rel=>exact⟨k+1,zaK,by go_num,hT.out,Hk.out (by trivial)⟩
      case measure=>simp[intOf];omega
    all_goals
     intro vs w4 hs hk _;revert hk;refine zs1 ?_;intro hk
    ·exact kH
    ·have hc:=ZX ((hs.block _ (Z9 hd.out.1)).trans hd.out.1);have hl:=Z9 ((hs.block _ (Z9 hd.out.1)).trans hd.out.1);exact kH
    iterate 2
     ·exact kH
    ·have c0:=hz.out w4 (hd.out.2.2.trans hs) 0 _ rfl;have c1:=hz.out w4 (hd.out.2.2.trans hs) 1 _ rfl;have c2:=hz.out w4 (hd.out.2.2.trans hs) 2 _ rfl;have c3:=hz.out w4 (hd.out.2.2.trans hs) 3 _ rfl;have c4:=hz.out w4 (hd.out.2.2.trans hs) 4 _ rfl;have c5:=hz.out w4 (hd.out.2.2.trans hs) 5 _ rfl;have hl:B<w4.heap.size:=Nat.lt_of_lt_of_le hB (hd.out.2.2.trans hs).size;rw[Nat.add_zero]at c0;exact kH
    ·exact kH
    ·have hc:=ZX ((hs.block _ (Z9 hd.out.2.1)).trans hd.out.2.1);have hl:=Z9 ((hs.block _ (Z9 hd.out.2.1)).trans hd.out.2.1);exact kH
    iterate 2
     ·exact kH
    ·have c0:=hw.out w4 (hd.out.2.2.trans hs) 0 _ rfl;have c1:=hw.out w4 (hd.out.2.2.trans hs) 1 _ rfl;have c2:=hw.out w4 (hd.out.2.2.trans hs) 2 _ rfl;have c3:=hw.out w4 (hd.out.2.2.trans hs) 3 _ rfl;have c4:=hw.out w4 (hd.out.2.2.trans hs) 4 _ rfl;have c5:=hw.out w4 (hd.out.2.2.trans hs) 5 _ rfl;have hl:B2<w4.heap.size:=Nat.lt_of_lt_of_le h9 (hd.out.2.2.trans hs).size;rw[Nat.add_zero]at c0;exact kH
    ·have HC:=hid (Hl.out w4 (hd.out.2.2.trans hs));clear hs;go_wp2_with fail
     refine HC.out.mono ?_;rintro e w5 ⟨rfl,He⟩;go_wp2
     exact⟨_,rfl,rfl,He⟩
    iterate 4
     ·exact kH
   ·obtain rfl:pn=k:=zaK
    have HF:=zH (checkGo pl ql 0=none) (X4.done (by rw[Hb.out];exact hU.out));go_wp2
    go_ret3
    exact⟨by rw[Hc.out,HF.out];rfl,hd.out.2.2⟩
 ·have nl:((pn:Int) != (qn:Int))=true:=by simp;omega
  have HF:=zH (E=(50,0,0)) (by rw[←HE.out,e0,e1,e2,decide_eq_false hl];rfl);have n0:(pp != qp)=false:=by rw[bne,e0];rfl
  have n1:(pk != qk)=false:=by rw[bne,e1];rfl
  have n2:(ps != qs)=false:=by rw[bne,e2];rfl
  clear e0 e1 e2 hl;exact zn
end Go.Proofs.YtimpddecdodddaaGreat
