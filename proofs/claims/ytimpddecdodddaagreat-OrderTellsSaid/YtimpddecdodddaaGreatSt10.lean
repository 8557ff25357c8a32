import Derived.Test.YtimpddecdodddaaGreatSt09
import Derived.Laws.CopyOwn
import Derived.Laws.BitsLemmas
namespace Go.Proofs.YtimpddecdodddaaGreat
open Go.RowKit
theorem qE {P:Prop} (h:P:=by simp only[List.getD_eq_getElem?_getD,List.getElem?_map,List.getElem?_range hz,Option.map_some,Option.getD_some];exact List.countP_mono_left fun k _ hA=>YE ht _ _ _ hA o hc hu):P:=h
theorem yw {P:Prop} (h:P:=by
 by_cases h:i<l.length
 ·exact h
 ·exfalso
  apply hy
  intro j hj;have:=Wb hf ht hc (by omega) hu (i:=j) (by omega)
  rwa [Z8 (by omega)]at this):P:=h
theorem yM {P:Prop} (h:P:=by
 obtain⟨h0,h1|⟨g,c,u,h1,h2,h3⟩⟩:=h
 ·exact⟨h0,.inl h1⟩
 ·exact⟨h0,.inr ⟨g,c,u,h1,Nat.le_trans hb h2,h3⟩⟩):P:=h
theorem yS {P:Prop} (h:P:=by rw[hI];simp only[List.getD_eq_getElem?_getD,List.getElem?_map,List.getElem?_range hz,Option.map_some,Option.getD_some]):P:=h
theorem kT {P:Prop} (h:P:=by repeat (first | exact trivial | refine⟨Is.stable _,?_⟩ | refine⟨Any.stable,?_⟩)):P:=h
theorem zaj {P:Prop} (h:P:=by rw[←Array.all_toList];rfl):P:=h
def Z1 (keys:List Nat) (listed:Array Bool):Nat:=keys.countP fun k=>listed.getD k false
def loK (l:List Oper) (keys:List Nat) (i:Nat):Nat:=keys.countP fun k=>Xi l l.length k i
def hiK (l:List Oper) (keys:List Nat) (i:Nat):Nat:=keys.countP fun k=>!Xi l l.length i k&&!(k==i)
def JQ (l:List Oper) (keys los his incs:List Nat):Bool:=
 los==(List.range l.length).map (loK l keys)&&his==(List.range l.length).map (hiK l keys)&&incs==(List.range l.length).map (fun i=>if keys.contains i then 1 else 0)&&decide keys.Nodup&&keys.all (fun k=>decide (k<l.length))
def Zaj (R:World→World→Prop) (Ph:Nat→World→Prop) (F:Nat→Value→World→Prop) (i n:Nat) (dst:Option Tmp) (a:Act) (w:World) (a':Act) (w':World):Prop:=∃ v,a'=a.put dst v∧F i v w'∧R w w'∧Ph n w'
def Zcm (R:World→World→Prop) (Ph:Nat→World→Prop) (Q:Exit→Act→World→Prop) (F:Nat→Value→World→Prop) (i n:Nat) (dst:Option Tmp) (a:Act) (w:World):Exit→Act→World→Prop
 | .normal,a',w'=>Zaj R Ph F i n dst a w a' w'
 | e,a',w'=>Q e a' w'
def JA (R:World→World→Prop) (Ph:Nat→World→Prop) (P:Program) (all:Array Oper) (Q:Exit→Act→World→Prop) (F:Nat→Value→World→Prop) (a0:Act) (w0:World):List Oper→List Nat→List Nat→List Nat→Nat→Prop
 | o::r,lo::los,hi::his,inc::incs,k=>(∀ (p:Nat) (vs:Nat→Value) (w:World),lo≤p→p≤hi→R w0 w→Ph p w→Zp F vs w o.after.toList →
   wpList P all (Zcm R Ph Q F k (p+inc) o.dst (putAll all.toList 0 vs a0) w) [o] (putAll all.toList 0 vs a0) w)∧JA R Ph P all Q F a0 w0 r los his incs (k+1)
 | _,_,_,_,_=>True
theorem QF {R : World→World→Prop} {Ph:Nat→World→Prop} {P : Program} {all:Array Oper} {Q : Exit→Act→World→Prop} {F : Nat→Value→World→Prop} {a0:Act} {w0:World}:∀ (l:List Oper) (los ha incs:List Nat) (k:Nat),JA R Ph P all Q F a0 w0 l los ha incs k→los.length=l.length→ha.length=l.length→incs.length=l.length→∀ (i:Nat) (o:Oper),l[i]? = some o→all[k+i]? = some o →
  ∀ (p:Nat) (vs:Nat→Value) (w:World),los.getD i 0≤p→p≤ha.getD i 0→R w0 w→Ph p w→Zp F vs w o.after.toList→∀ K:Act→World→Prop,(∀ a' w',Zaj R Ph F (k+i) (p+incs.getD i 0) o.dst (putAll all.toList 0 vs a0) w a' w'→K a' w') →
   wpOp P all Q (k+i) K (putAll all.toList 0 vs a0) w
 | [],_,_,_,_,_,_,_,_,_,_,h,_=>by cases h
 | _::_,[],_,_,_,_,h,_,_,_,_,_,_=>by simp at h
 | _::_,_::_,[],_,_,_,_,h,_,_,_,_,_=>by simp at h
 | _::_,_::_,_::_,[],_,_,_,_,h,_,_,_,_=>by simp at h
 | p::r,lo::los,hi::ha,inc::incs,k,h,_,_,_,0,o,ho,hall=>by
  obtain rfl:p=o:=by simpa using ho
  intro q vs w hc hd hw hb hk K hK
  have:=h.1 q vs w hc hd hw hb hk
  unfold wpOp
  rw[hall]
  simp only[wpList]at this
  show if _ then _ else _
  split
  ·rename_i hwant
   rw[if_pos hwant]at this
   rcases this with this|⟨h1,h2⟩
   ·exact .inl (Oper.wp_turn (fun _ _ _ h=>h) (fun h=>h) (Oper.wp_mono (fun a' w' h=>hK a' w' h) this))
   ·exact .inr ⟨h1,h2⟩
  ·rename_i hwant
   rw[if_neg hwant]at this
   exact hK _ _ this
 | p::r,lo::los,hi::ha,inc::incs,k,h,h1,h2,h3,i+1,o,ho,hall=>by
  have:=QF r los ha incs (k+1) h.2 zaw zax zay i o zaB kZ
  rw[show k+1+i=k+(i+1) from by omega]at this
  exact this
theorem WV {keys:List Nat} {listed:Array Bool} {i : Nat} (h:i∉keys):Z1 keys (listed.setIfInBounds i true)=Z1 keys listed:=by
 unfold Z1;refine List.countP_congr fun k hk=>?_
 have ha:i≠k:=fun e=>h (by rw[e];exact hk)
 rw[getD_set_ne _ ha]
theorem WW {listed:Array Bool} {i : Nat} (hi:i<listed.size) (hl:listed.getD i false=false):∀ {keys:List Nat},keys.Nodup→i∈keys→Z1 keys (listed.setIfInBounds i true)=Z1 keys listed+1
 | [],_,h=>by cases h
 | k::r,hn,h=>by
  rw[List.nodup_cons]at hn
  have ha:(listed.setIfInBounds i true).getD i false=true:=by simp[Array.getD_eq_getD_getElem?,hi]
  by_cases hk:k=i
  ·subst hk
   have hs:=WV (listed:=listed) hn.1
   unfold Z1 at hs ⊢
   rw[List.countP_cons,List.countP_cons,hs,ha,hl]
   simp
  ·have hr:=WW hi hl hn.2 ((List.mem_cons.1 h).resolve_left (fun e=>hk e.symm))
   unfold Z1 at hr ⊢
   rw[List.countP_cons,List.countP_cons,hr,getD_set_ne _ (fun e=>hk e.symm)]
   omega
section
variable {P : Program} {Q : Exit→Act→World→Prop} {l : List Oper} {F : Nat→Value→World→Prop} {a0:Act} {w0:World} {R : World→World→Prop} {Ph:Nat→World→Prop} {keys los his incs:List Nat}
theorem Zci (hu:JQ l keys los his incs=true) (h6:∀ a b c,R a b→R b c→R a c) (hF:∀ i v w w',F i v w→R w w'→F i v w') (hd:ZU l=true) (hb:ZW l 0=true)
  (hs:JA R Ph P l.toArray Q F a0 w0 l los his incs 0)
  (he:∀ vs w,R w0 w→Ph keys.length w→Zi F vs w 0 l.length→Q .normal (putAll l 0 vs a0) w) :
  ∀ (fuel:Nat) (listed:Array Bool) (vs:Nat→Value) (w:World),listed.size=l.length→((List.range l.length).filter fun i=>!listed.getD i true).length≤fuel→R w0 w→Ph (Z1 keys listed) w→Ws l listed →
   (∀ i,i<l.length→listed.getD i true=true→F i (vs i) w)→wpAny P .any l.toArray Q fuel listed (putAll l 0 vs a0) w:=by
 unfold JQ at hu;simp only[Bool.and_eq_true,beq_iff_eq,decide_eq_true_eq,List.all_eq_true]at hu;obtain⟨⟨⟨⟨hG,hJ⟩,hB⟩,hV⟩,hA⟩:=hu;have hK:∀ (listed:Array Bool) (vs:Nat→Value) (w:World),listed.size=l.length→Region.ready .any l.toArray listed=[]→R w0 w→Ph (Z1 keys listed) w →
   (∀ i,i<l.length→listed.getD i true=true→F i (vs i) w)→Q .normal (putAll l 0 vs a0) w:=by
  intro listed vs w hg hr hw hm hk;have all:∀ (n i:Nat),i<n→i<l.length→listed.getD i true=true:=by
   intro n;induction n with
   | zero=>intro i h;omega
   | succ n ih =>
    intro i h1 h2
    cases hl:listed.getD i true with
    | true=>rfl
    | false =>
     exfalso
     have:i∈Region.ready .any l.toArray listed:=by
      rw[mem_ready];have ho:l[i]? = some l[i]:=List.getElem?_eq_getElem h2;refine⟨hl,l[i],by simp,fun e hM hu=>?_⟩;have hf:=Z4 l 0 hb i l[i] ho e hM hu;exact qN
     exact kL
  have hP:Z1 keys listed=keys.length:=by
   unfold Z1;rw[List.countP_eq_length];intro k hk;have hH:=hA k hk;have:=all (k+1) k zaK hH;have hc:k<listed.size:=zaK
   rw[Array.getD_eq_getD_getElem?,Array.getElem?_eq_getElem hc]at this ⊢;simpa using this
  rw[hP]at hm;exact he vs w hw hm (Xk F vs w _ 0 fun i _ hi=>hk i zaK (all (i+1) i zaK zaK))
 have hN:∀ (listed:Array Bool) (i:Nat),listed.size=l.length→i<l.length→listed.getD i false=listed.getD i true:=by
  intro listed i hg hi;exact yJ
 intro fuel;induction fuel with
 | zero =>
  intro listed vs w hg hn hw hm _ hk;have hr:Region.ready .any l.toArray listed=[]:=by
   exact zC
  exact⟨hr,hK listed vs w hg hr hw hm hk⟩
 | succ fuel ih =>
  intro listed vs w hg hn hw hm hD hk;refine⟨fun hr=>hK listed vs w hg hr hw hm hk,fun i hi=>?_⟩;rw[mem_ready]at hi;obtain⟨h1,o,ho,hy⟩:=hi;have hq:l[i]? = some o:=by simpa using ho
  have hf:i<l.length:=(List.getElem?_eq_some_iff.1 hq).1;have hO:Zp F vs w o.after.toList:=by
   refine Wd F vs w _ fun e hM hE=>?_
   have hL:e∈o.after:=by simpa using hM
   have h7:=Z4 l 0 hb i o hq e hL hE;have hY:e.on<l.length:=zaK
   refine hk e.on hY ?_;have:=hy e hL hE;exact yK
  have hI:listed.getD i false=false:=by rw[hN listed i hg hf];exact h1
  have hZ:los.getD i 0≤Z1 keys listed:=by
   rw[hG];simp only[List.getD_eq_getElem?_getD,List.getElem?_map,List.getElem?_range hf,Option.map_some,Option.getD_some];exact List.countP_mono_left fun k _ ht=>YE hD _ _ _ ht o hq hy
  have h3:Z1 keys listed≤his.getD i 0:=by
   rw[hJ];simp only[List.getD_eq_getElem?_getD,List.getElem?_map,List.getElem?_range hf,Option.map_some,Option.getD_some];refine List.countP_mono_left fun k h0 ht=>?_
   simp only[Bool.and_eq_true,Bool.not_eq_true',beq_eq_false_iff_ne];refine⟨?_,fun e=>by rw[e,hI]at ht;cases ht⟩
   cases h4:Xi l l.length i k with
   | false=>rfl
   | true =>
    exfalso
    have hH:=hA k h0;have hR:l[k]? = some l[k]:=List.getElem?_eq_getElem hH;have:=YE hD _ _ _ h4 _ hR (hD k _ hR ht);rw[hI]at this;cases this
  have hX:incs.getD i 0=if keys.contains i then 1 else 0:=by
   rw[hB];simp only[List.getD_eq_getElem?_getD,List.getElem?_map,List.getElem?_range hf,Option.map_some,Option.getD_some]
  have hz:=QF l los his incs 0 hs (by rw[hG];simp) (by rw[hJ];simp) (by rw[hB];simp) i o hq (by simpa using hq) (Z1 keys listed) vs w hZ h3 hw hm hO;rw[Nat.zero_add]at hz;refine hz _ fun a' w' ⟨v,h5,hv,hQ,hh⟩=>?_
  subst h5;have e:=Xe v l 0 vs a0 i o hq hd;rw[Nat.zero_add]at e;rw[show l.toArray.toList=l from rfl,←e];refine ih (listed.setIfInBounds i true) (upd vs i v) w' (by simpa using hg) ?_ (h6 _ _ _ hw hQ) ?_ ?_ ?_
  ·have e2:((List.range l.length).filter fun j=>!(listed.setIfInBounds i true).getD j true)=((List.range l.length).filter fun j=>!listed.getD j true).filter fun j=>j != i:=by
    exact qr
   rw[e2];have hW:i∈(List.range l.length).filter fun j=>!listed.getD j true:=by
    rw[List.mem_filter];exact⟨List.mem_range.2 hf,by simp[h1]⟩
   have:=(List.length_filter_lt_length_iff_exists (p:=fun j=>j != i) (l:=(List.range l.length).filter fun j=>!listed.getD j true)).2 ⟨i,hW,by simp⟩
   omega
  ·rw[hX]at hh;by_cases hC:i∈keys
   ·rw[WW zaK hI hV hC];rw[if_pos (by simpa using hC)]at hh;exact hh
   ·rw[WV hC];rw[if_neg (by simpa using hC)]at hh;exact hh
  ·intro j p hp hT x hx hU;by_cases ha:j=i
   ·subst ha;have:=hq.symm.trans hp;cases this
    exact getD_set_true (hy x hx hU)
   ·rw[getD_set_ne _ (Ne.symm ha)]at hT;exact getD_set_true (hD j p hp hT x hx hU)
  ·intro j hj hS;by_cases ha:j=i
   ·exact kM
   ·rw[YS _ _ ha];rw[getD_set_ne _ (Ne.symm ha)]at hS;exact hF _ _ _ _ (hk j hj hS) hQ
theorem Qn {id:Nat} (keys los ha incs:List Nat) (R:World→World→Prop) (Ph:Nat→World→Prop) (hh:∀ a b c,R a b→R b c→R a c) (hj:R w0 w0.drew) (hm:P.follows .mixedOrders=true) (hd:ZU l=true) (hb:ZW l 0=true) (hg:JQ l keys los ha incs=true)
  (Fs:List (Value→World→Prop)) (hF:∀ i v w w',Zj Fs i v w→R w w'→Zj Fs i v w') (hf:Ph 0 w0.drew)
  (hs:JA R Ph P l.toArray Q (Zj Fs) a0 w0 l los ha incs 0)
  (he:∀ vs w,R w0 w→Ph keys.length w→Zi (Zj Fs) vs w 0 l.length→Q .normal (putAll l 0 vs a0) w):(Code.region id l.toArray true).wp P Q a0 w0:=by
 refine wp_region_any hm ?_;have e:=Y1 (Yj l a0) a0 l 0 (fun i o d hi hc=>by simp[Yj,hi,hc]);have h:=Zci hg hh hF hd hb hs he l.length (Array.replicate l.length false) (Yj l a0) { w0 with drawn:=w0.drawn+1 } zaL (Nat.le_trans (List.length_filter_le _ _) zaL) hj
  (by
   have:Z1 keys (Array.replicate l.length false)=0:=by
    unfold Z1;rw[List.countP_eq_zero];intro k _;simp[Array.getD_eq_getD_getElem?,Array.getElem?_replicate];split<;>simp
   rw[this];exact hf)
  (fun i o ho hl=>by
   have hi:i<l.length:=(List.getElem?_eq_some_iff.1 ho).1;simp[Array.getD_eq_getD_getElem?,hi]at hl)
  (fun i hi hl=>by simp[Array.getD_eq_getD_getElem?,hi]at hl)
 rw[e]at h;simpa using h
end
def Qy:List (Value→World→Prop)→Prop
 | []=>True
 | f::r=>Qi f∧Qy r
theorem QQ:∀ (l:List (Value→World→Prop)),Qy l→∀ i v w w',Zj l i v w→Zj l i v w'
 | [],_,_,_,_,_,h=>h
 | _::_,hl,0,v,w,w',h=>hl.1 v w w' h
 | _::r,hl,i+1,v,w,w',h=>QQ r hl.2 i v w w' h
theorem Any.fixed:Qi Any:=fun _ _ _ h=>h
theorem W7 {P : Program} {Q : Exit→Act→World→Prop} {l : List Oper} {a0:Act} {w0:World} {id:Nat} (keys los ha incs:List Nat) (Ph:Nat→World→Prop) (hm:P.follows .mixedOrders=true) (hd:ZU l=true) (hb:ZW l 0=true) (hf:JQ l keys los ha incs=true)
  (Fs:List (Value→World→Prop)) (hF:Qy Fs) (hc:Ph 0 w0.drew)
  (hs:JA (fun _ _=>True) Ph P l.toArray Q (Zj Fs) a0 w0 l los ha incs 0)
  (he:∀ vs w,True→Ph keys.length w→Zi (Zj Fs) vs w 0 l.length→Q .normal (putAll l 0 vs a0) w):(Code.region id l.toArray true).wp P Q a0 w0:=
 Qn keys los ha incs (fun _ _=>True) Ph (fun _ _ _ _ _=>trivial) trivial hm hd hb hf Fs (fun i v w w' h _=>QQ Fs hF i v w w' h) hc hs he
set_option linter.unusedVariables false
theorem ZdH {w : World} {b b':Nat} {e : TypeId} {size n:Nat} {v : Value} {xs:List Value} (h:w.ownsRow b e size v n xs) (hb:b'≤b):w.ownsRow b' e size v n xs:=by
 obtain⟨h0,h|⟨g,cap,cur,h1,h2,h3⟩⟩:=h
 ·exact⟨h0,.inl h⟩
 ·exact⟨h0,.inr ⟨g,cap,cur,h1,Nat.le_trans hb h2,h3⟩⟩
theorem Ze {w : World} {b : Nat} {e : TypeId} {size n:Nat} {v : Value} {xs:List Value} (h:w.ownsRow b e size v n xs):∃ a cap,v=.slice a n cap:=by
 obtain⟨_,⟨h1,h2⟩|⟨g,cap,cur,h1,_⟩⟩:=h
 ·exact⟨none,0,by rw[h1,h2]⟩
 ·exact⟨_,cap,h1⟩
theorem Wt {w : World} {b : Nat} {e : TypeId} {size n:Nat} {v : Value} {xs:List Value} (h:w.ownsRow b e size v n xs) {q : Nat} (hq:v.ownBlock=some q):∃ cur,w.heap[q]? = some (.cells cur e (0,0)):=by
 obtain⟨_,⟨hv,_⟩|⟨g,_,cur,hv,_,hg,_⟩⟩:=h
 ·rw[hv]at hq;cases hq
 ·rw[hv]at hq;obtain rfl:g=q:=Option.some.inj hq;exact⟨cur,hg⟩
def XU (all:List Oper) (n:Nat) (keys los his incs:List Nat):Bool:=
 los==(List.range n).map (loK all keys)&&his==(List.range n).map (hiK all keys)&&incs==(List.range n).map (fun i=>if keys.contains i then 1 else 0)&&decide keys.Nodup&&keys.all (fun k=>decide (k<n))
def VI (R:World→World→Prop) (Ph:Nat→World→Prop) (P:Program) (ops:Array Oper) (l:List Oper) (Q:Exit→Act→World→Prop) (F:Nat→Value→World→Prop) (a0:Act) (w0:World):List Oper→List Nat→List Nat→List Nat→Nat→Prop
 | o::r,lo::los,hi::his,inc::incs,k=>(∀ (p:Nat) (vs:Nat→Value) (w:World),lo≤p→p≤hi→R w0 w→Ph p w→Zp F vs w o.after.toList →
   wpList P ops (Zcm R Ph Q F k (p+inc) o.dst (putAll l 0 vs a0) w) [o] (putAll l 0 vs a0) w)∧VI R Ph P ops l Q F a0 w0 r los his incs (k+1)
 | _,_,_,_,_=>True
theorem Kw {R : World→World→Prop} {Ph:Nat→World→Prop} {P : Program} {ops:Array Oper} {l0:List Oper} {Q : Exit→Act→World→Prop} {F : Nat→Value→World→Prop} {a0:Act} {w0:World}:∀ (l:List Oper) (los ha incs:List Nat) (k:Nat),VI R Ph P ops l0 Q F a0 w0 l los ha incs k→los.length=l.length→ha.length=l.length→incs.length=l.length→∀ (i:Nat) (o:Oper),l[i]? = some o→ops[k+i]? = some o →
  ∀ (p:Nat) (vs:Nat→Value) (w:World),los.getD i 0≤p→p≤ha.getD i 0→R w0 w→Ph p w→Zp F vs w o.after.toList→∀ K:Act→World→Prop,(∀ a' w',Zaj R Ph F (k+i) (p+incs.getD i 0) o.dst (putAll l0 0 vs a0) w a' w'→K a' w') →
   wpOp P ops Q (k+i) K (putAll l0 0 vs a0) w
 | [],_,_,_,_,_,_,_,_,_,_,h,_=>by cases h
 | _::_,[],_,_,_,_,h,_,_,_,_,_,_=>by simp at h
 | _::_,_::_,[],_,_,_,_,h,_,_,_,_,_=>by simp at h
 | _::_,_::_,_::_,[],_,_,_,_,h,_,_,_,_=>by simp at h
 | p::r,lo::los,hi::ha,inc::incs,k,h,_,_,_,0,o,ho,hall=>by
  obtain rfl:p=o:=by simpa using ho
  intro q vs w hc hd hw hb hk K hK
  have:=h.1 q vs w hc hd hw hb hk
  unfold wpOp
  rw[hall]
  simp only[wpList]at this
  show if _ then _ else _
  split
  ·rename_i hwant
   rw[if_pos hwant]at this
   rcases this with this|⟨h1,h2⟩
   ·exact .inl (Oper.wp_turn (fun _ _ _ h=>h) (fun h=>h) (Oper.wp_mono (fun a' w' h=>hK a' w' h) this))
   ·exact .inr ⟨h1,h2⟩
  ·rename_i hwant
   rw[if_neg hwant]at this
   exact hK _ _ this
 | p::r,lo::los,hi::ha,inc::incs,k,h,h1,h2,h3,i+1,o,ho,hall=>by
  have:=Kw r los ha incs (k+1) h.2 zaw zax zay i o zaB kZ
  rw[show k+1+i=k+(i+1) from by omega]at this
  exact this
section
variable {P : Program} {Q : Exit→Act→World→Prop} {l t0:List Oper} {F : Nat→Value→World→Prop} {a0:Act} {w0:World} {R : World→World→Prop} {Ph:Nat→World→Prop} {keys los his incs:List Nat}
theorem Zbm (hC:XU (l++t0) l.length keys los his incs=true) (He:∀ a b c,R a b→R b c→R a c) (hF:∀ i v w w',F i v w→R w w'→F i v w') (hd:ZU l=true) (hb:ZW (l++t0) 0=true) (hf:Xc (l++t0) l.length=true)
  (hs:VI R Ph P (l++t0).toArray l Q F a0 w0 l los his incs 0)
  (he:∀ vs w,R w0 w→Ph keys.length w→Zi F vs w 0 l.length→wpList P (l++t0).toArray Q t0 (putAll l 0 vs a0) w) :
  ∀ (fuel:Nat) (listed:Array Bool) (vs:Nat→Value) (w:World),listed.size=(l++t0).length→((List.range (l++t0).length).filter fun i=>!listed.getD i true).length≤fuel→R w0 w→Ph (Z1 keys listed) w→Ws (l++t0) listed →
   (∀ i,i<l.length→listed.getD i true=true→F i (vs i) w)→(∀ i,l.length≤i→i<(l++t0).length→listed.getD i true=false)→wpAny P .any (l++t0).toArray Q fuel listed (putAll l 0 vs a0) w:=by
 unfold XU at hC;simp only[Bool.and_eq_true,beq_iff_eq,decide_eq_true_eq,List.all_eq_true]at hC;obtain⟨⟨⟨⟨hL,hN⟩,hI⟩,hY⟩,hG⟩:=hC;have h7:l.length≤(l++t0).length:=by simp
 have hO:∀ (fuel:Nat) (listed:Array Bool) (vs:Nat→Value) (w:World),listed.size=(l++t0).length→((List.range (l++t0).length).filter fun i=>!listed.getD i true).length≤fuel→R w0 w→Ph (Z1 keys listed) w→(∀ i,i<l.length→listed.getD i true=true) →
   (∀ i,i<l.length→listed.getD i true=true→F i (vs i) w)→(∀ i,l.length≤i→i<(l++t0).length→listed.getD i true=false)→wpAny P .any (l++t0).toArray Q fuel listed (putAll l 0 vs a0) w:=by
  intro fuel listed vs w hq hn hw hh hD hk hm;have hS:Z1 keys listed=keys.length:=by
   unfold Z1;rw[List.countP_eq_length];intro k hk;have hM:=hG k hk;rw[Z8 zaK];exact hD k hM
  rw[hS]at hh;refine Kg (n0:=l.length) (t0:=t0) hb zaL hf t0 0 rfl zaL fuel listed _ w hq hn (fun i hi=>hD i zaK) (fun i hi hB=>hm i zaK hB) ?_
  exact he vs w hw hh (Xk F vs w _ 0 fun i _ hi=>hk i zaK (hD i zaK))
 have h4:∀ i o,i<l.length→(l++t0)[i]? = some o→l[i]? = some o:=fun i o hi h=>by rwa [List.getElem?_append_left hi]at h
 intro fuel;induction fuel with
 | zero =>
  intro listed vs w hq hn hw hh ht hk hm;refine hO 0 listed vs w hq hn hw hh (fun i hi=>?_) hk hm
  exact zP
 | succ fuel ih =>
  intro listed vs w hq hn hw hh ht hk hm;by_cases hy:∀ i,i<l.length→listed.getD i true=true
  ·exact hO (fuel+1) listed vs w hq hn hw hh hy hk hm
  ·refine⟨fun hr=>?_,fun i hi=>?_⟩
   ·exfalso
    apply hy
    have all:∀ (n i:Nat),i<n→i<l.length→listed.getD i true=true:=by
     intro n;induction n with
     | zero=>intro i h;omega
     | succ n ihn =>
      intro i h1 h2
      cases hl:listed.getD i true with
      | true=>rfl
      | false =>
       exfalso
       have:i∈Region.ready .any (l++t0).toArray listed:=by
        rw[mem_ready];have ho:(l++t0)[i]? = some l[i]:=by rw[List.getElem?_append_left h2];exact List.getElem?_eq_getElem h2
        refine⟨hl,l[i],by simpa using ho,fun e hQ hC=>?_⟩;have hz:=Z4 (l++t0) 0 hb i l[i] ho e hQ hC;exact j9
       exact kL
    exact kB
   ·rw[mem_ready]at hi;obtain⟨h1,o,ho,hu⟩:=hi;have hc:(l++t0)[i]? = some o:=by simpa using ho
    have h0:i<(l++t0).length:=(List.getElem?_eq_some_iff.1 hc).1;have hz:i<l.length:=by
     exact yw
    have hU:=h4 i o hz hc;have hR:Zp F vs w o.after.toList:=by
     refine Wd F vs w _ fun e hQ hK=>?_
     have hP:e∈o.after:=by simpa using hQ
     have Hf:=Z4 (l++t0) 0 hb i o hc e hP hK;have h5:e.on<l.length:=zaK
     refine hk e.on h5 ?_;rw[←Z8 zaK];exact hu e hP hK
    have hB:listed.getD i false=false:=by rw[Z8 zaK];exact h1
    have h6:los.getD i 0≤Z1 keys listed:=by
     rw[hL];exact qE
    have Ha:Z1 keys listed≤his.getD i 0:=by
     rw[hN];simp only[List.getD_eq_getElem?_getD,List.getElem?_map,List.getElem?_range hz,Option.map_some,Option.getD_some];refine List.countP_mono_left fun k h8 hA=>?_
     simp only[Bool.and_eq_true,Bool.not_eq_true',beq_eq_false_iff_ne];refine⟨?_,fun e=>by rw[e,hB]at hA;cases hA⟩
     cases Hb:Xi (l++t0) (l++t0).length i k with
     | false=>rfl
     | true =>
      exfalso
      have hM:k<(l++t0).length:=Nat.lt_of_lt_of_le (hG k h8) h7;have hV:(l++t0)[k]? = some (l++t0)[k]:=List.getElem?_eq_getElem hM;have:=YE ht _ _ _ Hb _ hV (ht k _ hV hA);rw[hB]at this;cases this
    have h3:incs.getD i 0=if keys.contains i then 1 else 0:=by
     exact yS
    have hE:=Kw l los his incs 0 hs (by rw[hL];simp) (by rw[hN];simp) (by rw[hI];simp) i o hU zaz (Z1 keys listed) vs w h6 Ha hw hh hR;rw[Nat.zero_add]at hE;refine hE _ fun a' w' ⟨v,Hc,hv,hT,hg⟩=>?_
    subst Hc;have e:=Xe v l 0 vs a0 i o hU hd;rw[Nat.zero_add]at e;rw[←e];refine ih (listed.setIfInBounds i true) (upd vs i v) w' (by simpa using hq) ?_ (He _ _ _ hw hT) ?_ ?_ ?_ ?_
    ·have e2:((List.range (l++t0).length).filter fun j=>!(listed.setIfInBounds i true).getD j true)=((List.range (l++t0).length).filter fun j=>!listed.getD j true).filter fun j=>j != i:=by
      rw[List.filter_filter];refine List.filter_congr fun j hj=>?_
      by_cases ha:j=i
      ·subst ha;have h9:j<listed.size:=zaK
       simp[Array.getD_eq_getD_getElem?,h9]
      ·exact kE
     rw[e2];have hZ:i∈(List.range (l++t0).length).filter fun j=>!listed.getD j true:=by
      rw[List.mem_filter];exact⟨List.mem_range.2 h0,by simp[h1]⟩
     have:=(List.length_filter_lt_length_iff_exists (p:=fun j=>j != i) (l:=(List.range (l++t0).length).filter fun j=>!listed.getD j true)).2 ⟨i,hZ,by simp⟩
     omega
    ·rw[h3]at hg;by_cases hJ:i∈keys
     ·rw[WW zaK hB hY hJ];rw[if_pos (by simpa using hJ)]at hg;exact hg
     ·rw[WV hJ];rw[if_neg (by simpa using hJ)]at hg;exact hg
    ·intro j p hp hH x hx hX;by_cases ha:j=i
     ·subst ha;have:=hc.symm.trans hp;cases this
      exact getD_set_true (hu x hx hX)
     ·rw[getD_set_ne _ (Ne.symm ha)]at hH;exact getD_set_true (ht j p hp hH x hx hX)
    ·intro j hj hW;by_cases ha:j=i
     ·exact kM
     ·rw[YS _ _ ha];rw[getD_set_ne _ (Ne.symm ha)]at hW;exact hF _ _ _ _ (hk j hj hW) hT
    ·intro j hj hH;rw[getD_set_ne _ zaK];exact hm j hj hH
end
theorem Jb {P : Program} {Q : Exit→Act→World→Prop} {all:List Oper} {a0:Act} {w0:World} {id:Nat} (n:Nat) (keys los hg incs:List Nat) (R:World→World→Prop) (Ph:Nat→World→Prop) (hp:∀ a b c,R a b→R b c→R a c) (hq:R w0 w0.drew) (hm:P.follows .mixedOrders=true)
  (hd:ZU (all.take n)=true) (hb:ZW all 0=true) (hf:Xc all n=true) (hn:n≤all.length) (hk:XU all n keys los hg incs=true) (Fs:List (Value→World→Prop)) (hF:∀ i v w w',Zj Fs i v w→R w w'→Zj Fs i v w') (hj:Ph 0 w0.drew)
  (hs:VI R Ph P all.toArray (all.take n) Q (Zj Fs) a0 w0 (all.take n) los hg incs 0)
  (he:∀ vs w,R w0 w→Ph keys.length w→Zi (Zj Fs) vs w 0 n→wpList P all.toArray Q (all.drop n) (putAll (all.take n) 0 vs a0) w):(Code.region id all.toArray true).wp P Q a0 w0:=by
 refine wp_region_any hm ?_;have hc:(all.take n).length=n:=by rw[List.length_take];omega
 have ha:all.take n++all.drop n=all:=List.take_append_drop n all;have e:=Y1 (Yj (all.take n) a0) a0 (all.take n) 0 (fun i o d hi hh=>by simp only[Yj,Nat.zero_add,hi,Option.bind_some,hh]);have h:=Zbm (l:=all.take n) (t0:=all.drop n) (P:=P) (Q:=Q) (F:=Zj Fs) (a0:=a0) (w0:=w0) (by rw[ha,hc];exact hk) hp hF hd (by rw[ha];exact hb) (by rw[ha,hc];exact hf) (by rw[ha];exact hs) (by rw[ha,hc];exact he)
  all.length (Array.replicate all.length false) (Yj (all.take n) a0) { w0 with drawn:=w0.drawn+1 } (by rw[ha];simp) kV hq
  (by
   have:Z1 keys (Array.replicate all.length false)=0:=by
    unfold Z1;rw[List.countP_eq_zero];intro k _;simp[Array.getD_eq_getD_getElem?,Array.getElem?_replicate];split<;>rfl
   rw[this];exact hj)
  (fun i o ho hl=>by
   have hi:i<all.length:=by rw[←ha];exact (List.getElem?_eq_some_iff.1 ho).1
   simp[Array.getD_eq_getD_getElem?,hi]at hl)
  (fun i hi hl=>by
   have:i<all.length:=zaK
   simp[Array.getD_eq_getD_getElem?,this]at hl)
  (fun i _ hi=>by
   rw[ha]at hi;simp[Array.getD_eq_getD_getElem?,hi])
 rw[e,ha]at h;simpa using h
def Yw (S:Nat→Prop) (F:Value→World→Prop):Prop:=∀ v w w',F v w→Zb S w w'→F v w'
def WZ (S:Nat→Prop):List (Value→World→Prop)→Prop
 | []=>True
 | f::r=>Yw S f∧WZ S r
theorem Va {S : Nat→Prop}:∀ (l:List (Value→World→Prop)),WZ S l→∀ i v w w',Zj l i v w→Zb S w w'→Zj l i v w'
 | [],_,_,_,_,_,h,_=>h
 | _::_,hl,0,v,w,w',h,t=>hl.1 v w w' h t
 | _::r,hl,i+1,v,w,w',h,t=>Va r hl.2 i v w w' h t
theorem Is.stableT (S:Nat→Prop) (x:Value):Yw S (Is x):=fun _ _ _ h _=>h
theorem Any.stableT (S:Nat→Prop):Yw S Any:=fun _ _ _ h _=>h
theorem XH {P : Program} {Q : Exit→Act→World→Prop} {all:List Oper} {a0:Act} {w0:World} {id:Nat} (n:Nat) (keys los ha incs:List Nat) (S:Nat→Prop) (Ph:Nat→World→Prop) (hm:P.follows .mixedOrders=true)
  (hd:ZU (all.take n)=true) (hb:ZW all 0=true) (hf:Xc all n=true) (hn:n≤all.length) (hg:XU all n keys los ha incs=true) (Fs:List (Value→World→Prop)) (hF:WZ S Fs) (hc:Ph 0 w0.drew)
  (hs:VI (Zb S) Ph P all.toArray (all.take n) Q (Zj Fs) a0 w0 (all.take n) los ha incs 0)
  (he:∀ vs w,Zb S w0 w→Ph keys.length w→Zi (Zj Fs) vs w 0 n→wpList P all.toArray Q (all.drop n) (putAll (all.take n) 0 vs a0) w):(Code.region id all.toArray true).wp P Q a0 w0:=
 Jb n keys los ha incs (Zb S) Ph (fun _ _ _=>Zb.trans) (Zb.since (Since.refl _).drew) hm hd hb hf hn hg Fs (Va Fs hF) hc hs he
def HeapIs (w:World) (q:Nat) (cs:Array Value) (T:TypeId):Prop:=w.heap[q]? = some (.cells cs T (0,0))
theorem HeapIs.cell {w : World} {q : Nat} {cs:Array Value} {T : TypeId} (h:HeapIs w q cs T) (i:Nat):w.cell? ⟨q,i,none⟩=cs[i]?:=by
 simp[World.cell?,show w.heap[q]? = _ from h]
theorem HeapIs.lt {w : World} {q : Nat} {cs:Array Value} {T : TypeId} (h:HeapIs w q cs T):q<w.heap.size:=(Array.getElem?_eq_some_iff.1 h).1
theorem HeapIs.turn {S : Nat→Prop} {w w':World} {q : Nat} {cs:Array Value} {T : TypeId} (h:HeapIs w q cs T) (t:Zb S w w') (hn:¬ S q):HeapIs w' q cs T:=(t.block q h.lt hn).trans h
theorem HeapIs.keep {w w':World} {q : Nat} {cs:Array Value} {T : TypeId} (h:HeapIs w q cs T) (s:Since w w'):HeapIs w' q cs T:=(Below.block s q h.lt).trans h
theorem HeapIs.new (w:World) (cs:Array Value) (T:TypeId):HeapIs (w.alloc (.cells cs T)) w.heap.size cs T:=ZG _ _
theorem ZcU {k : IntKind} {w : World} {a : Option Addr} {cap:Nat} {l : List Int} (h:Zy k w (.slice a l.length cap) l) (n:Nat) (hn:n≤l.length):Zy k w (.slice a n cap) (l.take n):=by
 rcases h with ⟨_,h1,h2⟩|⟨b,off,cap',h1,h2,h3,hb,hc⟩
 ·subst h2;obtain rfl:n=0:=by simpa using hn
  cases h1
  exact .inl ⟨_,rfl,rfl⟩
 ·cases h1
  have hl:(l.take n).length=n:=by rw[List.length_take];omega
  refine .inr ⟨b,off,cap,by rw[hl],zaK,h3,hb,fun j x hj=>?_⟩;refine hc j x ?_;rw[List.getElem?_take]at hj;split at hj
  ·exact hj
  ·cases hj
theorem WC {k : IntKind} {w : World} {a : Option Addr} {cap n:Nat} {l : List Int} (h:Zy k w (.slice a n cap) l):n=l.length∧n≤cap∧cap≤9223372036854775807:=by
 rcases h with ⟨_,h1,h2⟩|⟨b,off,cap',h1,h2,h3,hb,hc⟩
 ·cases h1;subst h2;exact⟨rfl,Nat.le_refl _,zaK⟩
 ·cases h1;unfold maxLen at h3;exact⟨rfl,h2,zaK⟩
def iv (i:InV):Value:=.agg #[i.argsv,i.memv,i.ansv,.int .i64 i.steps]
theorem ZO {w : World} {g : Nat} {old:Array Value} {t : TypeId} (h:w.heap[g]? = some (.cells old t (0,0))) (cs:Array Value):(w.setRow g cs).heap[g]? = some (.cells cs t (0,0)):=by
 simp[World.setRow,Array.getElem?_modify,h]
theorem ZI {S : Nat→Prop} {w : World} {g : Nat} (hg:S g) (cs:Array Value):Zb S w (w.setRow g cs):=by
 refine⟨rfl,rfl,rfl,by simp[World.setRow],fun k hk hs=>?_⟩;have:g≠k:=fun e=>hs (e ▸ hg)
 simp[World.setRow,Array.getElem?_modify,this]
def Yb (w:World) (v v':Value):Prop:=∀ q,v'.ownBlock=some q→v.ownBlock=some q∨w.heap.size≤q
theorem Ky {P : Program} (w:World) (base:Nat) (t ty e:TypeId) (i:TypeInfo) (z:Value) (size bytes:Nat) (ht:P.underlying t=some (.slice e)) (hi:P.info? e=some i) (hz:i.zero=some z)
  (he:i.size=size) (hm:i.bytes=bytes) (hw:z.cells.size=size) (hx:0<size)
  (v:Value) (n:Nat) (xs:List Value) (hk:w.ownsRow base e size v n xs)
  (a:Addr) (m c:Nat) (news:List Value) (hl:news.length=m*size) (hc:∀ j u,news[j]? = some u→w.cell? (a.add j)=some u) (h1:∀ u∈news,u.oneCell'=true)
  (ho:n+m≤maxLen) (hd:(n+m)*bytes≤140737488355328) (hu:base≤w.heap.size) :
  ∃ v' w',(Builtin.append_ #[t,t] ty #[v,.slice (some a) m c]).run P w=.ok v' w'∧w'.ownsRow base e size v' (n+m) (xs++news)∧w.grownBy w' v.ownBlock∧Yb w v v':=by
 obtain⟨v',w',hr,h2,h3,_⟩:=run_append_own w base t ty e i z size bytes ht hi hz he hm hw hx v n xs hk a m c news hl hc h1 ho hd hu;refine⟨v',w',hr,h2,h3,?_⟩;obtain⟨hh,⟨hv,hn⟩|⟨g,cap,cur,hv,hb,hg,hC,hD,hy,hp⟩⟩:=hk
 ·obtain⟨v2,w2,ha,hF,_,_⟩:=run_append_own (P:=P) w w.heap.size t ty e i z size bytes ht hi hz he hm hw hx v n xs ⟨hh,.inl ⟨hv,hn⟩⟩ a m c news hl hc h1 ho hd (Nat.le_refl _);rw[hr]at ha
  cases ha
  obtain⟨_,⟨hj,_⟩|⟨g2,_,_,hj,hE,_⟩⟩:=hF
  ·intro q hq;rw[hj]at hq;cases hq
  ·intro q hq;rw[hj]at hq;cases hq;exact .inr hE
 ·subst hv;subst he;by_cases hf:n+m≤cap
  ·have hA:n*i.size+news.length≤cur.size:=by rw[hl,hy,←Nat.add_mul];exact Nat.mul_le_mul_right _ hf
   have ha:=run_append_room (P:=P) w t ty e i ht hi g n cap cur hg a m c news hl hc h1 hf hA;rw[hr]at ha
   cases ha
   exact fun q hq=>.inl hq
  ·have hs:∀ j u,xs[j]? = some u→w.cell? ((⟨g,0,none⟩:Addr).add j)=some u:=World.ownsRow.cells (show w.ownsRow base e i.size (.slice (some ⟨g,0,none⟩) n cap) n xs from⟨hh,.inr ⟨g,cap,cur,rfl,hb,hg,hC,hD,hy,hp⟩⟩) (g:=g) rfl
   have hB:n+m≤9223372036854775807:=by simp only[maxLen]at ho;omega
   have ha:=run_append_grow (P:=P) w t ty e i z ht hi hz ⟨g,0,none⟩ n cap xs hh hs a m c news hl hc zaK zaK (growslice_fits zaK (by rw[hm];exact hd));rw[hr]at ha
   cases ha
   intro q hq
   cases hq
   exact .inr (Nat.le_refl _)
theorem YG {P : Program} {w : World} {ops:Array Oper} {rest:List Oper} {o : Oper} {a : Act} {Q : Exit→Act→World→Prop} (hh:o.guard=none) (s x:Operand) (t:TypeId)
  (ho:o.op=.call { callee:=.builtin .append,args:=#[s,x],argTypes:=#[t,t] })
  (base:Nat) (e:TypeId) (i:TypeInfo) (z:Value) (size bytes:Nat) (ht:P.underlying t=some (.slice e)) (hi:P.info? e=some i) (hz:i.zero=some z)
  (hb:i.size=size) (hj:i.bytes=bytes) (hf:z.cells.size=size) (hg:0<size)
  (v:Value) (n:Nat) (xs:List Value) (hs:a.eval s=v) (he:w.ownsRow base e size v n xs)
  (ad:Addr) (m c:Nat) (news:List Value) (hx:a.eval x=.slice (some ad) m c) (hl:news.length=m*size) (hc:∀ j u,news[j]? = some u→w.cell? (ad.add j)=some u) (h1:∀ u∈news,u.oneCell'=true)
  (hk:n+m≤maxLen) (ha:(n+m)*bytes≤140737488355328) (hd:base≤w.heap.size)
  (h:∀ v' w',w'.ownsRow base e size v' (n+m) (xs++news)→Zb (fun q=>v.ownBlock=some q) w w'→Yb w v v'→wpList P ops Q rest (a.put o.dst v') w'):wpList P ops Q (o::rest) a w:=by
 refine wpList_plain hh fun _ hK=>?_
 obtain⟨v',w',hr,h2,h3,h4⟩:=Ky (P:=P) w base t o.type e i z size bytes ht hi hz hb hj hf hg v n xs he ad m c news hl hc h1 hk ha hd;unfold Oper.wp execOp;simp only[ho,resolve,invoke,builtin,Sem.run_bind,Sem.run_pure,Result.andThen_ok,List.map_toArray,List.map_cons,List.map_nil,hs,hx,hr];exact hK _ _ (h v' w' h2 (Zbz h3) h4)
theorem ZC {α:Type} {P : Program} {base:Nat} {w : World} {ops:Array Oper} {rest:List Oper} {o : Oper} {a : Act} {Q : Exit→Act→World→Prop} (f:α→List Value) (sz:Nat) (hf:∀ x,(f x).length=sz) (hl:0<sz) (hn:o.guard=none) (s x:Operand) (t:TypeId)
  (ho:o.op=.call { callee:=.builtin .append,args:=#[s,x],argTypes:=#[t,t] })
  (e:TypeId) (z:Value) (bytes:Nat) (ht:P.underlying t=some (.slice e)) (hc:(P.info? e).map (fun i=>(i.zero,i.size,i.bytes))=some (some z,sz,bytes)) (hz:z.cells.size=sz)
  (v:Value) (l:List α) (y:α) (b cap:Nat) (t2:TypeId) (hs:a.eval s=v) (hx:a.eval x=.slice (some ⟨b,0,none⟩) 1 cap) (he:OwnRow f sz e base w v l) (hb:w.heap[b]? = some (.cells (f y).toArray t2 (0,0))) (h1:∀ u∈f y,u.oneCell'=true)
  (hm:l.length+1≤maxLen) (hg:(l.length+1)*bytes≤140737488355328) (hd:base≤w.heap.size)
  (h:∀ v' w',OwnRow f sz e base w' v' (l++[y])→Zb (fun k=>v.ownBlock=some k) w w'→Yb w v v'→wpList P ops Q rest (a.put o.dst v') w'):wpList P ops Q (o::rest) a w:=by
 obtain⟨i,hi,hk,hj,hh⟩:=info_parts hc;refine YG hn s x t ho base e i z sz bytes ht hi hk hj hh hz hl v _ _ hs he ⟨b,0,none⟩ 1 cap (f y) hx (by rw[hf,Nat.one_mul]) ?_ h1 hm hg hd ?_
 ·intro j u hu;have e2:(⟨b,0,none⟩:Addr).add j=⟨b,j,none⟩:=by
   unfold Addr.add;split
   ·rename_i h0;subst h0;rfl
   ·simp
  rw[e2];simp[World.cell?,hb,hu]
 ·intro v' w' ha t h4;refine h v' w' ?_ t h4;unfold OwnRow;rw[List.length_append,List.flatMap_append];simpa using ha
theorem Zl {P : Program} {base:Nat} {w : World} {ops:Array Oper} {rest:List Oper} {o : Oper} {a : Act} {Q : Exit→Act→World→Prop} (k:IntKind) (hf:o.guard=none) (s x:Operand) (t:TypeId)
  (ho:o.op=.call { callee:=.builtin .append,args:=#[s,x],argTypes:=#[t,t] })
  (e:TypeId) (z:Value) (bytes:Nat) (ht:P.underlying t=some (.slice e)) (hg:(P.info? e).map (fun i=>(i.zero,i.size,i.bytes))=some (some z,1,bytes)) (hz:z.cells.size=1) (hm:bytes≤8)
  (v xv:Value) (l1 l2:List Int) (hs:a.eval s=v) (hx:a.eval x=xv) (hc:w.ownsRow base e 1 v l1.length (l1.map (Value.int k))) (hp:Zy k w xv l2)
  (hd:l1.length+l2.length≤1000000) (he:base≤w.heap.size)
  (h:∀ v' w',w'.ownsRow base e 1 v' (l1++l2).length ((l1++l2).map (Value.int k))→Zb (fun q=>v.ownBlock=some q) w w'→Yb w v v'→wpList P ops Q rest (a.put o.dst v') w'):wpList P ops Q (o::rest) a w:=by
 obtain⟨i,hi,hl,hk,hj⟩:=info_parts hg;rcases hp with ⟨ad,hv,rfl⟩|⟨b,off,cap,hv,hr,_,hb,hh⟩
 ·subst hv
  cases ad with
  | none =>
   refine wpList_append_own_none hf s x t ho base e i 1 ht hi v _ _ hs hc hx (h v w ?_ (Zb.refl _ _) fun q hq=>.inl hq)
   simpa using hc
  | some ad =>
   refine YG hf s x t ho base e i z 1 bytes ht hi hl hk hj hz zaJ v _ _ hs hc ad 0 0 [] hx rfl (fun j u hu=>by cases hu) (fun u hu=>by cases hu) (by unfold maxLen;simp at hd;omega) ?_ he ?_
   ·have:(l1.length+0)*bytes≤1000000*8:=Nat.mul_le_mul (by simpa using hd) hm;omega
   ·intro v' w' ha t h4;exact h v' w' zaA t h4
 ·subst hv;refine YG hf s x t ho base e i z 1 bytes ht hi hl hk hj hz zaJ v _ _ hs hc ⟨b,off,none⟩ l2.length cap (l2.map (Value.int k)) hx zaL ?_ ?_ zaq ?_ he ?_
  ·intro j u hu;rw[List.getElem?_map]at hu;obtain⟨n,hn,rfl⟩:=Option.map_eq_some_iff.1 hu;have:=hh j n hn;exact jU
  ·intro u hu;obtain⟨n,_,rfl⟩:=List.mem_map.1 hu;rfl
  ·have:(l1.length+l2.length)*bytes≤1000000*8:=Nat.mul_le_mul hd hm;omega
  ·intro v' w' ha t h4;exact h v' w' zaA t h4
theorem RowIn.turn {α:Type} {f : α→List Value} {sz:Nat} {p : World→α→Prop} {S : Nat→Prop} {w w':World} {v : Value} {l : List α} (h:RowIn f sz p w v l) (t:Zb S w w') (hn:∀ q,v.ownBlock=some q→¬ S q) (hp:∀ x∈l,p w x→p w' x):RowIn f sz p w' v l:=by
 rcases h with h|⟨b,off,cap,h1,h2,h3,h4,h5⟩
 ·exact .inl h
 ·exact .inr ⟨b,off,cap,h1,h2,h3,Nat.lt_of_lt_of_le h4 t.size,fun j x hj=>⟨fun t2 ht=>by rw[t.cell (p:=⟨b,off+j*sz+t2,none⟩) h4 (hn b (by rw[h1];rfl))];exact (h5 j x hj).1 t2 ht,hp x (List.mem_of_getElem? hj) (h5 j x hj).2⟩⟩
theorem Z0 {α:Type} {f : α→List Value} {sz:Nat} (hf:∀ x,(f x).length=sz) {p : World→α→Prop} {e : TypeId} {base:Nat} {w : World} {v : Value} {l : List α} (h:OwnRow f sz e base w v l) (hp:∀ x∈l,p w x):RowIn f sz p w v l:=by
 rcases OwnRow.cells hf h with ⟨h1,h2⟩|⟨g,cap,h1,h2,h3,_,h4,h5⟩
 ·exact .inl ⟨none,h1,h2⟩
 ·exact .inr ⟨g,0,cap,h1,h2,h3,h4,fun j x hj=>⟨fun t ht=>by rw[show 0+j*sz+t=j*sz+t from by omega];exact h5 j t x hj ht,hp x (List.mem_of_getElem? hj)⟩⟩
theorem ZdX {α:Type} (f:α→List Value) (x:α):(f x).toArray=([x].flatMap f).toArray:=by simp
structure YF where
 op:Int
 dst:Int
 two:Int
 args:List Int
 av:Value
 imm:Int
structure YW where
 dst:Int
 ins:List (Int × Int)
 inv:Value
structure YP where
 kind:Int
 args:List Int
 argsv:Value
 «to» : List Int
 tov:Value
 imm:Int
structure Zt where
 phis:List YW
 phv:Value
 ins:List YF
 inv:Value
 term:YP
structure FnV where
 params:Int
 blocks:List Zt
 bv:Value
def Z6 (x:YF):List Value:=[.int .i64 x.op,.int .i64 x.dst,.int .i64 x.two,x.av,.int .i32 x.imm]
theorem VC (x:YF):(Z6 x).length=5:=rfl
def prcells (x:Int × Int):List Value:=[.int .i64 x.1,.int .i64 x.2]
theorem Y2 (x:Int × Int):(prcells x).length=2:=rfl
def fpcells (x:YW):List Value:=[.int .i64 x.dst,x.inv]
theorem Xm (x:YW):(fpcells x).length=2:=rfl
def VF (x:YP):List Value:=[.int .i64 x.kind,x.argsv,x.tov,.int .i32 x.imm]
def fbcells (x:Zt):List Value:=[x.phv,x.inv,.int .i64 x.term.kind,x.term.argsv,x.term.tov,.int .i32 x.term.imm]
theorem ZZ (x:Zt):(fbcells x).length=6:=rfl
def fiv (x:YF):Value:=.agg #[.int .i64 x.op,.int .i64 x.dst,.int .i64 x.two,x.av,.int .i32 x.imm]
def fv (f:FnV):Value:=.agg #[.int .i64 f.params,f.bv]
def WG (w:World) (x:YF):Prop:=Zd w x.av x.args
abbrev XG (w:World) (v:Value) (l:List (Int × Int)):Prop:=RowIn prcells 2 (fun _ _=>True) w v l
def YJ (w:World) (x:YW):Prop:=XG w x.inv x.ins
def Ww (w:World) (x:YP):Prop:=Zd w x.argsv x.args∧Zd w x.tov x.to
def FBlkIn (w:World) (b:Zt):Prop:=RowIn fpcells 2 YJ w b.phv b.phis∧RowIn Z6 5 WG w b.inv b.ins∧Ww w b.term
def FnIn (w:World) (f:FnV):Prop:=RowIn fbcells 6 FBlkIn w f.bv f.blocks
theorem XG.keep {w w':World} {v : Value} {l : List (Int × Int)} (h:XG w v l) (s:Since w w'):XG w' v l:=RowIn.keep (fun _ _ _ _ _=>trivial) h s
theorem WG.keep (w w':World) (x:YF) (h:WG w x) (s:Since w w'):WG w' x:=Zy.keep h s
theorem YJ.keep (w w':World) (x:YW) (h:YJ w x) (s:Since w w'):YJ w' x:=XG.keep h s
theorem Ww.keep {w w':World} {x : YP} (h:Ww w x) (s:Since w w'):Ww w' x:=⟨h.1.keep s,h.2.keep s⟩
theorem FBlkIn.keep (w w':World) (b:Zt) (h:FBlkIn w b) (s:Since w w'):FBlkIn w' b:=⟨RowIn.keep YJ.keep h.1 s,RowIn.keep WG.keep h.2.1 s,h.2.2.keep s⟩
theorem FnIn.keep {w w':World} {f : FnV} (h:FnIn w f) (s:Since w w'):FnIn w' f:=RowIn.keep FBlkIn.keep h s
theorem Zn {w : World} {b : Nat} {e : TypeId} {size n:Nat} {v : Value} {xs:List Value} (h:w.ownsRow b e size v n xs) {q : Nat} {cs:Array Value} {T : TypeId} (hb:HeapIs w q cs T) (hT:e≠T):¬ v.ownBlock=some q:=by
 intro hq;obtain⟨cur,hc⟩:=Wt h hq;rw[show w.heap[q]? = _ from hb]at hc
 simp only[Option.some.injEq,Obj.cells.injEq]at hc;exact hT hc.2.1.symm
theorem HeapIs.set {w : World} {q : Nat} {cs:Array Value} {T : TypeId} (h:HeapIs w q cs T) (i:Nat) (x:Value):HeapIs (w.setCell ⟨q,i,none⟩ x) q (cs.setIfInBounds i x) T:=by
 unfold HeapIs at h ⊢;simp[World.setCell,Array.getElem?_modify,h]
theorem HeapIs.frozen {w : World} {q : Nat} {cs:Array Value} {T : TypeId} (h:HeapIs w q cs T) (i:Nat):w.frozen? ⟨q,i,none⟩=false:=by
 simp[World.frozen?,show w.heap[q]? = _ from h]
theorem XX {b1 b2 sz n:Nat} {e : TypeId} {w : World} {v : Value} {xs:List Value} (h:w.ownsRow b1 e sz v n xs) (hb:b2≤b1):w.ownsRow b2 e sz v n xs:=by
 exact yM
theorem YI {w : World} {k : IntKind} {ta:Option Addr} {tn tc:Nat} {l : List Int} (h:Zy k w (.slice ta tn tc) l) {j : Nat} {v : Int} (hj:l[j]? = some v):∃ b off,ta=some ⟨b,off,none⟩∧b<w.heap.size∧w.cell? ⟨b,off+j,none⟩=some (.int k v):=by
 rcases h with ⟨_,_,h2⟩|⟨b,off,cap,h1,_,_,h4,h5⟩
 ·rw[h2]at hj;cases hj
 ·injection h1 with e1 e2 e3
  exact⟨b,off,e1,h4,h5 j v hj⟩
section
variable {w : World} {T : Nat→Prop}
def Kin (w:World) (U:TypeId) (T:Nat→Prop):Prop:=∀ q,T q→∃ cs,w.heap[q]? = some (.cells cs U)
theorem ZV {base:Nat} {e : TypeId} {sz n g cap:Nat} {xs:List Value} (h:w.ownsRow base e sz (.slice (some ⟨g,0,none⟩) n cap) n xs) (j:Nat) (y:Value):(w.setCell ⟨g,j,none⟩ y).ownsRow base e sz (.slice (some ⟨g,0,none⟩) n cap) n (xs.set j y):=by
 obtain⟨h0,⟨hv,_⟩|⟨g2,cap2,cur,hv,h2,hg,h4,h5,h6,h7⟩⟩:=h
 ·cases hv
 ·cases hv
  have h1:=HeapIs.set (show HeapIs w g cur e from hg) j y;refine⟨by rw[List.length_set];exact h0,.inr ⟨g,cap,cur.setIfInBounds j y,rfl,h2,h1,h4,h5,by rw[Array.size_setIfInBounds];exact h6,?_⟩⟩
  rw[Array.toList_setIfInBounds,List.take_set,h7]
theorem Kin.box {q0:Nat} {cs:Array Value} {U : TypeId} (h:HeapIs w q0 cs U):Kin w U (fun q=>q=q0):=fun q e=>⟨cs,by rw[e];exact h⟩
theorem Kin.row {b sz n:Nat} {e : TypeId} {v : Value} {xs:List Value} (h:w.ownsRow b e sz v n xs):Kin w e (fun q=>v.ownBlock=some q):=fun q hq=>Wt h hq
theorem Kin.apart {b sz n:Nat} {e U:TypeId} {v : Value} {xs:List Value} (k:Kin w U T) (h:w.ownsRow b e sz v n xs) (ha:e≠U):∀ q,v.ownBlock=some q→¬ T q:=fun q hq ht=>by
 obtain⟨c1,h1⟩:=Wt h hq
 obtain⟨c2,h2⟩:=k q ht
 rw[h1]at h2
 simp only[Option.some.injEq,Obj.cells.injEq]at h2
 exact ha h2.2.1
theorem Kin.heap {q : Nat} {cs:Array Value} {e U:TypeId} (k:Kin w U T) (h:HeapIs w q cs e) (ha:e≠U):¬ T q:=fun ht=>by
 obtain⟨c2,h2⟩:=k q ht
 rw[show w.heap[q]? = _ from h]at h2
 simp only[Option.some.injEq,Obj.cells.injEq]at h2
 exact ha h2.2.1
end
end Go.Proofs.YtimpddecdodddaaGreat
