import Derived.Test.YtmhojfpidedjeaaGreatDoorTp09
import Derived.Laws.Rows
import Derived.Deep.CutBlock
namespace Go.Proofs.YtmhojfpidedjeaaGreatDoor
open Go.RowKit
def ZJ (keys:List Nat) (listed:Array Bool):Nat:=keys.countP fun k=>listed.getD k false
def loK (l:List Oper) (keys:List Nat) (i:Nat):Nat:=keys.countP fun k=>XY l l.length k i
def hiK (l:List Oper) (keys:List Nat) (i:Nat):Nat:=keys.countP fun k=>!XY l l.length i k&&!(k==i)
def Kr (l:List Oper) (keys los his incs:List Nat):Bool:=
 los==(List.range l.length).map (loK l keys)&&his==(List.range l.length).map (hiK l keys)&&incs==(List.range l.length).map (fun i=>if keys.contains i then 1 else 0)&&decide keys.Nodup&&keys.all (fun k=>decide (k<l.length))
def QU (R:World→World→Prop) (Ph:Nat→World→Prop) (F:Nat→Value→World→Prop) (i n:Nat) (dst:Option Tmp) (a:Act) (w:World) (a':Act) (w':World):Prop:=∃ v,a'=a.put dst v∧F i v w'∧R w w'∧Ph n w'
def Zbe (R:World→World→Prop) (Ph:Nat→World→Prop) (Q:Exit→Act→World→Prop) (F:Nat→Value→World→Prop) (i n:Nat) (dst:Option Tmp) (a:Act) (w:World):Exit→Act→World→Prop
 | .normal,a',w'=>QU R Ph F i n dst a w a' w'
 | e,a',w'=>Q e a' w'
def Kg (R:World→World→Prop) (Ph:Nat→World→Prop) (P:Program) (all:Array Oper) (Q:Exit→Act→World→Prop) (F:Nat→Value→World→Prop) (a0:Act) (w0:World):List Oper→List Nat→List Nat→List Nat→Nat→Prop
 | o::r,lo::los,hi::his,inc::incs,k=>(∀ (p:Nat) (vs:Nat→Value) (w:World),lo≤p→p≤hi→R w0 w→Ph p w→Zh F vs w o.after.toList →
   wpList P all (Zbe R Ph Q F k (p+inc) o.dst (putAll all.toList 0 vs a0) w) [o] (putAll all.toList 0 vs a0) w)∧Kg R Ph P all Q F a0 w0 r los his incs (k+1)
 | _,_,_,_,_=>True
theorem ZaC {R : World→World→Prop} {Ph:Nat→World→Prop} {P : Program} {all:Array Oper} {Q : Exit→Act→World→Prop} {F : Nat→Value→World→Prop} {a0:Act} {w0:World}:∀ (l:List Oper) (los ha incs:List Nat) (k:Nat),Kg R Ph P all Q F a0 w0 l los ha incs k→los.length=l.length→ha.length=l.length→incs.length=l.length→∀ (i:Nat) (o:Oper),l[i]? = some o→all[k+i]? = some o →
  ∀ (p:Nat) (vs:Nat→Value) (w:World),los.getD i 0≤p→p≤ha.getD i 0→R w0 w→Ph p w→Zh F vs w o.after.toList→∀ K:Act→World→Prop,(∀ a' w',QU R Ph F (k+i) (p+incs.getD i 0) o.dst (putAll all.toList 0 vs a0) w a' w'→K a' w') →
   wpOp P all Q (k+i) K (putAll all.toList 0 vs a0) w
 | [],_,_,_,_,_,_,_,_,_,_,h,_=>by cases h
 | _::_,[],_,_,_,_,h,_,_,_,_,_,_=>by simp at h
 | _::_,_::_,[],_,_,_,_,h,_,_,_,_,_=>by simp at h
 | _::_,_::_,_::_,[],_,_,_,_,h,_,_,_,_=>by simp at h
 | p::r,lo::los,hi::ha,inc::incs,k,h,_,_,_,0,o,ho,hall=>by
  obtain rfl:p=o:=by simpa using ho
  intro q vs w hc hd hw hb hk K hK
  have:=h.1 q vs w hc hd hw hb hk
  unfold wpOp
  rw[hall]
  simp only[wpList]at this
  show if _ then _ else _
  split
  ·rename_i hwant
   rw[if_pos hwant]at this
   rcases this with this|⟨h1,h2⟩
   ·exact .inl (Oper.wp_turn (fun _ _ _ h=>h) (fun h=>h) (Oper.wp_mono (fun a' w' h=>hK a' w' h) this))
   ·exact .inr ⟨h1,h2⟩
  ·rename_i hwant
   rw[if_neg hwant]at this
   exact hK _ _ this
 | p::r,lo::los,hi::ha,inc::incs,k,h,h1,h2,h3,i+1,o,ho,hall=>by
  have:=ZaC r los ha incs (k+1) h.2 (by simpa using h1) (by simpa using h2) (by simpa using h3) i o (by simpa using ho) (by rw[show k+1+i=k+(i+1) from by omega];exact hall)
  rw[show k+1+i=k+(i+1) from by omega]at this
  exact this
theorem WH {keys:List Nat} {listed:Array Bool} {i : Nat} (h:i∉keys):ZJ keys (listed.setIfInBounds i true)=ZJ keys listed:=by
 unfold ZJ;refine List.countP_congr fun k hk=>?_
 have ha:i≠k:=fun e=>h (by rw[e];exact hk)
 rw[getD_set_ne _ ha]
theorem WI {listed:Array Bool} {i : Nat} (hi:i<listed.size) (hl:listed.getD i false=false):∀ {keys:List Nat},keys.Nodup→i∈keys→ZJ keys (listed.setIfInBounds i true)=ZJ keys listed+1
 | [],_,h=>by cases h
 | k::r,hn,h=>by
  rw[List.nodup_cons]at hn
  have ha:(listed.setIfInBounds i true).getD i false=true:=by simp[Array.getD_eq_getD_getElem?,hi]
  by_cases hk:k=i
  ·subst hk
   have hs:=WH (listed:=listed) hn.1
   unfold ZJ at hs ⊢
   rw[List.countP_cons,List.countP_cons,hs,ha,hl]
   simp
  ·have hr:=WI hi hl hn.2 ((List.mem_cons.1 h).resolve_left (fun e=>hk e.symm))
   unfold ZJ at hr ⊢
   rw[List.countP_cons,List.countP_cons,hr,getD_set_ne _ (fun e=>hk e.symm)]
   omega
section
variable {P : Program} {Q : Exit→Act→World→Prop} {l : List Oper} {F : Nat→Value→World→Prop} {a0:Act} {w0:World} {R : World→World→Prop} {Ph:Nat→World→Prop} {keys los his incs:List Nat}
theorem ZdD (hu:Kr l keys los his incs=true) (h6:∀ a b c,R a b→R b c→R a c) (hF:∀ i v w w',F i v w→R w w'→F i v w') (hd:ZR l=true) (hb:ZU l 0=true)
  (hs:Kg R Ph P l.toArray Q F a0 w0 l los his incs 0)
  (he:∀ vs w,R w0 w→Ph keys.length w→Zc F vs w 0 l.length→Q .normal (putAll l 0 vs a0) w) :
  ∀ (fuel:Nat) (listed:Array Bool) (vs:Nat→Value) (w:World),listed.size=l.length→((List.range l.length).filter fun i=>!listed.getD i true).length≤fuel→R w0 w→Ph (ZJ keys listed) w→WL l listed →
   (∀ i,i<l.length→listed.getD i true=true→F i (vs i) w)→wpAny P .any l.toArray Q fuel listed (putAll l 0 vs a0) w:=by
 unfold Kr at hu;simp only[Bool.and_eq_true,beq_iff_eq,decide_eq_true_eq,List.all_eq_true]at hu;obtain⟨⟨⟨⟨hG,hJ⟩,hB⟩,hV⟩,hA⟩:=hu;have hK:∀ (listed:Array Bool) (vs:Nat→Value) (w:World),listed.size=l.length→Region.ready .any l.toArray listed=[]→R w0 w→Ph (ZJ keys listed) w →
   (∀ i,i<l.length→listed.getD i true=true→F i (vs i) w)→Q .normal (putAll l 0 vs a0) w:=by
  intro listed vs w hg hr hw hm hk;have all:∀ (n i:Nat),i<n→i<l.length→listed.getD i true=true:=by
   intro n;induction n with
   | zero=>intro i h;omega
   | succ n ih =>
    intro i h1 h2
    cases hl:listed.getD i true with
    | true=>rfl
    | false =>
     exfalso
     have:i∈Region.ready .any l.toArray listed:=by
      rw[mem_ready];have ho:l[i]? = some l[i]:=List.getElem?_eq_getElem h2;refine⟨hl,l[i],by simp,fun e hM hu=>?_⟩;have hf:=Z8 l 0 hb i l[i] ho e hM hu;have:=ih e.on (by omega) (by omega);have hc:e.on<listed.size:=by omega
      rw[Array.getD_eq_getD_getElem?,Array.getElem?_eq_getElem hc]at this ⊢;simpa using this
     rw[hr]at this
     cases this
  have hP:ZJ keys listed=keys.length:=by
   unfold ZJ;rw[List.countP_eq_length];intro k hk;have hH:=hA k hk;have:=all (k+1) k (by omega) hH;have hc:k<listed.size:=by omega
   rw[Array.getD_eq_getD_getElem?,Array.getElem?_eq_getElem hc]at this ⊢;simpa using this
  rw[hP]at hm;exact he vs w hw hm (Xj F vs w _ 0 fun i _ hi=>hk i (by omega) (all (i+1) i (by omega) (by omega)))
 have hN:∀ (listed:Array Bool) (i:Nat),listed.size=l.length→i<l.length→listed.getD i false=listed.getD i true:=by
  intro listed i hg hi;have hc:i<listed.size:=by omega
  rw[Array.getD_eq_getD_getElem?,Array.getD_eq_getD_getElem?,Array.getElem?_eq_getElem hc];rfl
 intro fuel;induction fuel with
 | zero =>
  intro listed vs w hg hn hw hm _ hk;have hr:Region.ready .any l.toArray listed=[]:=by
   rw[List.eq_nil_iff_forall_not_mem];intro i hi;rw[mem_ready]at hi;obtain⟨h1,o,ho,_⟩:=hi;have hf:i<l.length:=by simpa using (Array.getElem?_eq_some_iff.1 ho).1
   have:i∈(List.range l.length).filter fun i=>!listed.getD i true:=by
    rw[List.mem_filter];exact⟨List.mem_range.2 hf,by simp[h1]⟩
   have:=List.length_pos_of_mem this;omega
  exact⟨hr,hK listed vs w hg hr hw hm hk⟩
 | succ fuel ih =>
  intro listed vs w hg hn hw hm hD hk;refine⟨fun hr=>hK listed vs w hg hr hw hm hk,fun i hi=>?_⟩;rw[mem_ready]at hi;obtain⟨h1,o,ho,hy⟩:=hi;have hq:l[i]? = some o:=by simpa using ho
  have hf:i<l.length:=(List.getElem?_eq_some_iff.1 hq).1;have hO:Zh F vs w o.after.toList:=by
   refine Wk F vs w _ fun e hM hE=>?_
   have hL:e∈o.after:=by simpa using hM
   have h7:=Z8 l 0 hb i o hq e hL hE;have hY:e.on<l.length:=by omega
   refine hk e.on hY ?_;have:=hy e hL hE;have hc:e.on<listed.size:=by omega
   rw[Array.getD_eq_getD_getElem?,Array.getElem?_eq_getElem hc]at this ⊢;simpa using this
  have hI:listed.getD i false=false:=by rw[hN listed i hg hf];exact h1
  have hZ:los.getD i 0≤ZJ keys listed:=by
   rw[hG];simp only[List.getD_eq_getElem?_getD,List.getElem?_map,List.getElem?_range hf,Option.map_some,Option.getD_some];exact List.countP_mono_left fun k _ ht=>Yw hD _ _ _ ht o hq hy
  have h3:ZJ keys listed≤his.getD i 0:=by
   rw[hJ];simp only[List.getD_eq_getElem?_getD,List.getElem?_map,List.getElem?_range hf,Option.map_some,Option.getD_some];refine List.countP_mono_left fun k h0 ht=>?_
   simp only[Bool.and_eq_true,Bool.not_eq_true',beq_eq_false_iff_ne];refine⟨?_,fun e=>by rw[e,hI]at ht;cases ht⟩
   cases h4:XY l l.length i k with
   | false=>rfl
   | true =>
    exfalso
    have hH:=hA k h0;have hR:l[k]? = some l[k]:=List.getElem?_eq_getElem hH;have:=Yw hD _ _ _ h4 _ hR (hD k _ hR ht);rw[hI]at this;cases this
  have hX:incs.getD i 0=if keys.contains i then 1 else 0:=by
   rw[hB];simp only[List.getD_eq_getElem?_getD,List.getElem?_map,List.getElem?_range hf,Option.map_some,Option.getD_some]
  have hz:=ZaC l los his incs 0 hs (by rw[hG];simp) (by rw[hJ];simp) (by rw[hB];simp) i o hq (by simpa using hq) (ZJ keys listed) vs w hZ h3 hw hm hO;rw[Nat.zero_add]at hz;refine hz _ fun a' w' ⟨v,h5,hv,hQ,hh⟩=>?_
  subst h5;have e:=Xw v l 0 vs a0 i o hq hd;rw[Nat.zero_add]at e;rw[show l.toArray.toList=l from rfl,←e];refine ih (listed.setIfInBounds i true) (upd vs i v) w' (by simpa using hg) ?_ (h6 _ _ _ hw hQ) ?_ ?_ ?_
  ·have e2:((List.range l.length).filter fun j=>!(listed.setIfInBounds i true).getD j true)=((List.range l.length).filter fun j=>!listed.getD j true).filter fun j=>j != i:=by
    rw[List.filter_filter];refine List.filter_congr fun j hj=>?_
    by_cases ha:j=i
    ·subst ha;have hc:j<listed.size:=by omega
     simp[Array.getD_eq_getD_getElem?,hc]
    ·rw[getD_set_ne _ (Ne.symm ha)];simp[ha]
   rw[e2];have hW:i∈(List.range l.length).filter fun j=>!listed.getD j true:=by
    rw[List.mem_filter];exact⟨List.mem_range.2 hf,by simp[h1]⟩
   have:=(List.length_filter_lt_length_iff_exists (p:=fun j=>j != i) (l:=(List.range l.length).filter fun j=>!listed.getD j true)).2 ⟨i,hW,by simp⟩
   omega
  ·rw[hX]at hh;by_cases hC:i∈keys
   ·rw[WI (by omega) hI hV hC];rw[if_pos (by simpa using hC)]at hh;exact hh
   ·rw[WH hC];rw[if_neg (by simpa using hC)]at hh;exact hh
  ·intro j p hp hT x hx hU;by_cases ha:j=i
   ·subst ha;have:=hq.symm.trans hp;cases this
    exact getD_set_true (hy x hx hU)
   ·rw[getD_set_ne _ (Ne.symm ha)]at hT;exact getD_set_true (hD j p hp hT x hx hU)
  ·intro j hj hS;by_cases ha:j=i
   ·subst ha;rw[Wh];exact hv
   ·rw[Xb _ _ ha];rw[getD_set_ne _ (Ne.symm ha)]at hS;exact hF _ _ _ _ (hk j hj hS) hQ
theorem Q1 {id:Nat} (keys los ha incs:List Nat) (R:World→World→Prop) (Ph:Nat→World→Prop) (hh:∀ a b c,R a b→R b c→R a c) (hj:R w0 w0.drew) (hm:P.follows .mixedOrders=true) (hd:ZR l=true) (hb:ZU l 0=true) (hg:Kr l keys los ha incs=true)
  (Fs:List (Value→World→Prop)) (hF:∀ i v w w',Zd Fs i v w→R w w'→Zd Fs i v w') (hf:Ph 0 w0.drew)
  (hs:Kg R Ph P l.toArray Q (Zd Fs) a0 w0 l los ha incs 0)
  (he:∀ vs w,R w0 w→Ph keys.length w→Zc (Zd Fs) vs w 0 l.length→Q .normal (putAll l 0 vs a0) w):(Code.region id l.toArray true).wp P Q a0 w0:=by
 refine wp_region_any hm ?_;have e:=Xc (YA l a0) a0 l 0 (fun i o d hi hc=>by simp[YA,hi,hc]);have h:=ZdD hg hh hF hd hb hs he l.length (Array.replicate l.length false) (YA l a0) { w0 with drawn:=w0.drawn+1 } (by simp) (Nat.le_trans (List.length_filter_le _ _) (by simp)) hj
  (by
   have:ZJ keys (Array.replicate l.length false)=0:=by
    unfold ZJ;rw[List.countP_eq_zero];intro k _;simp[Array.getD_eq_getD_getElem?,Array.getElem?_replicate];split<;>simp
   rw[this];exact hf)
  (fun i o ho hl=>by
   have hi:i<l.length:=(List.getElem?_eq_some_iff.1 ho).1;simp[Array.getD_eq_getD_getElem?,hi]at hl)
  (fun i hi hl=>by simp[Array.getD_eq_getD_getElem?,hi]at hl)
 rw[e]at h;simpa using h
end
def Zas:List (Value→World→Prop)→Prop
 | []=>True
 | f::r=>Zb8 f∧Zas r
theorem ZaQ:∀ (l:List (Value→World→Prop)),Zas l→∀ i v w w',Zd l i v w→Zd l i v w'
 | [],_,_,_,_,_,h=>h
 | _::_,hl,0,v,w,w',h=>hl.1 v w w' h
 | _::r,hl,i+1,v,w,w',h=>ZaQ r hl.2 i v w w' h
theorem Any.fixed:Zb8 Any:=fun _ _ _ h=>h
theorem Yx {P : Program} {Q : Exit→Act→World→Prop} {l : List Oper} {a0:Act} {w0:World} {id:Nat} (keys los ha incs:List Nat) (Ph:Nat→World→Prop) (hm:P.follows .mixedOrders=true) (hd:ZR l=true) (hb:ZU l 0=true) (hf:Kr l keys los ha incs=true)
  (Fs:List (Value→World→Prop)) (hF:Zas Fs) (hc:Ph 0 w0.drew)
  (hs:Kg (fun _ _=>True) Ph P l.toArray Q (Zd Fs) a0 w0 l los ha incs 0)
  (he:∀ vs w,True→Ph keys.length w→Zc (Zd Fs) vs w 0 l.length→Q .normal (putAll l 0 vs a0) w):(Code.region id l.toArray true).wp P Q a0 w0:=
 Q1 keys los ha incs (fun _ _=>True) Ph (fun _ _ _ _ _=>trivial) trivial hm hd hb hf Fs (fun i v w w' h _=>ZaQ Fs hF i v w w' h) hc hs he
set_option linter.unusedVariables false
def boundsKT (all:List Oper) (n:Nat) (keys los his incs:List Nat):Bool:=
 los==(List.range n).map (loK all keys)&&his==(List.range n).map (hiK all keys)&&incs==(List.range n).map (fun i=>if keys.contains i then 1 else 0)&&decide keys.Nodup&&keys.all (fun k=>decide (k<n))
def Yd (S:Nat→Prop) (F:Value→World→Prop):Prop:=∀ v w w',F v w→Turn S w w'→F v w'
def Vz (S:Nat→Prop):List (Value→World→Prop)→Prop
 | []=>True
 | f::r=>Yd S f∧Vz S r
theorem Is.stableT (S:Nat→Prop) (x:Value):Yd S (Is x):=fun _ _ _ h _=>h
theorem Any.stableT (S:Nat→Prop):Yd S Any:=fun _ _ _ h _=>h
def RR (p:Nat) (R R2:World→World→Prop) (k:Nat):World→World→Prop:=cond (Nat.beq k p) R R2
theorem ZfH {p : Nat} {R R2:World→World→Prop} (h:∀ a b,R2 a b→R a b) (k:Nat) {a b:World} (hk:RR p R R2 k a b):R a b:=by
 unfold RR at hk
 cases hb:Nat.beq k p with
 | true=>rw[hb]at hk;exact hk
 | false=>rw[hb]at hk;exact h _ _ hk
theorem Zhm {p : Nat} {R R2:World→World→Prop} {k : Nat} (hn:k≠p) {a b:World} (hk:RR p R R2 k a b):R2 a b:=by
 unfold RR at hk
 cases hb:Nat.beq k p with
 | true=>exact absurd (Nat.eq_of_beq_eq_true hb) hn
 | false=>rw[hb]at hk;exact hk
def Jj (pv:Nat) (R R2:World→World→Prop) (Ph:Nat→World→Prop) (P:Program) (ops:Array Oper) (l:List Oper) (Q:Exit→Act→World→Prop) (F:Nat→Value→World→Prop) (a0:Act) (w0:World):List Oper→List Nat→List Nat→List Nat→Nat→Prop
 | o::r,lo::los,hi::his,inc::incs,k=>(∀ (p:Nat) (vs:Nat→Value) (w:World),lo≤p→p≤hi→R w0 w→Ph p w→Zh F vs w o.after.toList →
   wpList P ops (Zbe (RR pv R R2 k) Ph Q F k (p+inc) o.dst (putAll l 0 vs a0) w) [o] (putAll l 0 vs a0) w)∧Jj pv R R2 Ph P ops l Q F a0 w0 r los his incs (k+1)
 | _,_,_,_,_=>True
theorem Qh {pv:Nat} {R R2:World→World→Prop} {Ph:Nat→World→Prop} {P : Program} {ops:Array Oper} {l0:List Oper} {Q : Exit→Act→World→Prop} {F : Nat→Value→World→Prop} {a0:Act} {w0:World}:∀ (l:List Oper) (los ha incs:List Nat) (k:Nat),Jj pv R R2 Ph P ops l0 Q F a0 w0 l los ha incs k→los.length=l.length→ha.length=l.length→incs.length=l.length→∀ (i:Nat) (o:Oper),l[i]? = some o→ops[k+i]? = some o →
  ∀ (p:Nat) (vs:Nat→Value) (w:World),los.getD i 0≤p→p≤ha.getD i 0→R w0 w→Ph p w→Zh F vs w o.after.toList→∀ K:Act→World→Prop,(∀ a' w',QU (RR pv R R2 (k+i)) Ph F (k+i) (p+incs.getD i 0) o.dst (putAll l0 0 vs a0) w a' w'→K a' w') →
   wpOp P ops Q (k+i) K (putAll l0 0 vs a0) w
 | [],_,_,_,_,_,_,_,_,_,_,h,_=>by cases h
 | _::_,[],_,_,_,_,h,_,_,_,_,_,_=>by simp at h
 | _::_,_::_,[],_,_,_,_,h,_,_,_,_,_=>by simp at h
 | _::_,_::_,_::_,[],_,_,_,_,h,_,_,_,_=>by simp at h
 | p::r,lo::los,hi::ha,inc::incs,k,h,_,_,_,0,o,ho,hall=>by
  obtain rfl:p=o:=by simpa using ho
  intro q vs w hc hd hw hb hk K hK
  have:=h.1 q vs w hc hd hw hb hk
  unfold wpOp
  rw[hall]
  simp only[wpList]at this
  show if _ then _ else _
  split
  ·rename_i hwant
   rw[if_pos hwant]at this
   rcases this with this|⟨h1,h2⟩
   ·exact .inl (Oper.wp_turn (fun _ _ _ h=>h) (fun h=>h) (Oper.wp_mono (fun a' w' h=>hK a' w' h) this))
   ·exact .inr ⟨h1,h2⟩
  ·rename_i hwant
   rw[if_neg hwant]at this
   exact hK _ _ this
 | p::r,lo::los,hi::ha,inc::incs,k,h,h1,h2,h3,i+1,o,ho,hall=>by
  have:=Qh r los ha incs (k+1) h.2 (by simpa using h1) (by simpa using h2) (by simpa using h3) i o (by simpa using ho) (by rw[show k+1+i=k+(i+1) from by omega];exact hall)
  rw[show k+1+i=k+(i+1) from by omega]at this
  exact this
section
variable {P : Program} {Q : Exit→Act→World→Prop} {l t0:List Oper} {F : Nat→Value→World→Prop} {a0:Act} {w0:World} {pv:Nat} {R R2:World→World→Prop} {Ph:Nat→World→Prop} {keys los his incs:List Nat}
theorem KQ (hC:boundsKT (l++t0) l.length keys los his incs=true) (Hg:∀ a b c,R a b→R b c→R a c) (hF:∀ i v w w',i≠pv→F i v w→R w w'→F i v w') (Hh:∀ i v w w',F i v w→R2 w w'→F i v w') (hX:∀ a b,R2 a b→R a b) (hd:ZR l=true) (hb:ZU (l++t0) 0=true) (hf:YU (l++t0) l.length=true)
  (hs:Jj pv R R2 Ph P (l++t0).toArray l Q F a0 w0 l los his incs 0)
  (he:∀ vs w,R w0 w→Ph keys.length w→Zc F vs w 0 l.length→wpList P (l++t0).toArray Q t0 (putAll l 0 vs a0) w) :
  ∀ (fuel:Nat) (listed:Array Bool) (vs:Nat→Value) (w:World),listed.size=(l++t0).length→((List.range (l++t0).length).filter fun i=>!listed.getD i true).length≤fuel→R w0 w→Ph (ZJ keys listed) w→WL (l++t0) listed →
   (∀ i,i<l.length→listed.getD i true=true→F i (vs i) w)→(∀ i,l.length≤i→i<(l++t0).length→listed.getD i true=false)→wpAny P .any (l++t0).toArray Q fuel listed (putAll l 0 vs a0) w:=by
 unfold boundsKT at hC;simp only[Bool.and_eq_true,beq_iff_eq,decide_eq_true_eq,List.all_eq_true]at hC;obtain⟨⟨⟨⟨hM,hP⟩,hI⟩,h0⟩,hG⟩:=hC;have h9:l.length≤(l++t0).length:=by simp
 have hQ:∀ (fuel:Nat) (listed:Array Bool) (vs:Nat→Value) (w:World),listed.size=(l++t0).length→((List.range (l++t0).length).filter fun i=>!listed.getD i true).length≤fuel→R w0 w→Ph (ZJ keys listed) w→(∀ i,i<l.length→listed.getD i true=true) →
   (∀ i,i<l.length→listed.getD i true=true→F i (vs i) w)→(∀ i,l.length≤i→i<(l++t0).length→listed.getD i true=false)→wpAny P .any (l++t0).toArray Q fuel listed (putAll l 0 vs a0) w:=by
  intro fuel listed vs w hq hn hw hh hD hk hm;have hU:ZJ keys listed=keys.length:=by
   unfold ZJ;rw[List.countP_eq_length];intro k hk;have hO:=hG k hk;rw[ZK (by omega)];exact hD k hO
  rw[hU]at hh;refine Jn (n0:=l.length) (t0:=t0) hb (by simp) hf t0 0 rfl (by simp) fuel listed _ w hq hn (fun i hi=>hD i (by omega)) (fun i hi hB=>hm i (by omega) hB) ?_
  exact he vs w hw hh (Xj F vs w _ 0 fun i _ hi=>hk i (by omega) (hD i (by omega)))
 have h6:∀ i o,i<l.length→(l++t0)[i]? = some o→l[i]? = some o:=fun i o hi h=>by rwa [List.getElem?_append_left hi]at h
 intro fuel;induction fuel with
 | zero =>
  intro listed vs w hq hn hw hh ht hk hm;refine hQ 0 listed vs w hq hn hw hh (fun i hi=>?_) hk hm
  cases hl:listed.getD i true with
  | true=>rfl
  | false =>
   exfalso
   have:i∈(List.range (l++t0).length).filter fun i=>!listed.getD i true:=by
    rw[List.mem_filter];exact⟨List.mem_range.2 (by omega),by simp[hl]⟩
   have:=List.length_pos_of_mem this;omega
 | succ fuel ih =>
  intro listed vs w hq hn hw hh ht hk hm;by_cases hy:∀ i,i<l.length→listed.getD i true=true
  ·exact hQ (fuel+1) listed vs w hq hn hw hh hy hk hm
  ·refine⟨fun hr=>?_,fun i hi=>?_⟩
   ·exfalso
    apply hy
    have all:∀ (n i:Nat),i<n→i<l.length→listed.getD i true=true:=by
     intro n;induction n with
     | zero=>intro i h;omega
     | succ n ihn =>
      intro i h1 h2
      cases hl:listed.getD i true with
      | true=>rfl
      | false =>
       exfalso
       have:i∈Region.ready .any (l++t0).toArray listed:=by
        rw[mem_ready];have ho:(l++t0)[i]? = some l[i]:=by rw[List.getElem?_append_left h2];exact List.getElem?_eq_getElem h2
        refine⟨hl,l[i],by simpa using ho,fun e hS hC=>?_⟩;have hz:=Z8 (l++t0) 0 hb i l[i] ho e hS hC;rw[ZK (by omega)];exact ihn e.on (by omega) (by omega)
       rw[hr]at this
       cases this
    exact fun i hi=>all (i+1) i (by omega) hi
   ·rw[mem_ready]at hi;obtain⟨h1,o,ho,hu⟩:=hi;have hc:(l++t0)[i]? = some o:=by simpa using ho
    have h4:i<(l++t0).length:=(List.getElem?_eq_some_iff.1 hc).1;have hz:i<l.length:=by
     by_cases h:i<l.length
     ·exact h
     ·exfalso
      apply hy
      intro j hj;have:=XE hf ht hc (by omega) hu (i:=j) (by omega)
      rwa [ZK (by omega)]at this
    have hV:=h6 i o hz hc;have hT:Zh F vs w o.after.toList:=by
     refine Wk F vs w _ fun e hS hK=>?_
     have hR:e∈o.after:=by simpa using hS
     have Hi:=Z8 (l++t0) 0 hb i o hc e hR hK;have h7:e.on<l.length:=by omega
     refine hk e.on h7 ?_;rw[←ZK (by omega)];exact hu e hR hK
    have hB:listed.getD i false=false:=by rw[ZK (by omega)];exact h1
    have h8:los.getD i 0≤ZJ keys listed:=by
     rw[hM];simp only[List.getD_eq_getElem?_getD,List.getElem?_map,List.getElem?_range hz,Option.map_some,Option.getD_some];exact List.countP_mono_left fun k _ hA=>Yw ht _ _ _ hA o hc hu
    have Hc:ZJ keys listed≤his.getD i 0:=by
     rw[hP];simp only[List.getD_eq_getElem?_getD,List.getElem?_map,List.getElem?_range hz,Option.map_some,Option.getD_some];refine List.countP_mono_left fun k Ha hA=>?_
     simp only[Bool.and_eq_true,Bool.not_eq_true',beq_eq_false_iff_ne];refine⟨?_,fun e=>by rw[e,hB]at hA;cases hA⟩
     cases He:XY (l++t0) (l++t0).length i k with
     | false=>rfl
     | true =>
      exfalso
      have hO:k<(l++t0).length:=Nat.lt_of_lt_of_le (hG k Ha) h9;have hW:(l++t0)[k]? = some (l++t0)[k]:=List.getElem?_eq_getElem hO;have:=Yw ht _ _ _ He _ hW (ht k _ hW hA);rw[hB]at this;cases this
    have h5:incs.getD i 0=if keys.contains i then 1 else 0:=by
     rw[hI];simp only[List.getD_eq_getElem?_getD,List.getElem?_map,List.getElem?_range hz,Option.map_some,Option.getD_some]
    have hE:=Qh l los his incs 0 hs (by rw[hM];simp) (by rw[hP];simp) (by rw[hI];simp) i o hV (by simpa using hc) (ZJ keys listed) vs w h8 Hc hw hh hT;simp only[Nat.zero_add]at hE;refine hE _ fun a' w' ⟨v,Hf,hv,hL,hg⟩=>?_
    subst Hf;have e:=Xw v l 0 vs a0 i o hV hd;rw[Nat.zero_add]at e;rw[←e];refine ih (listed.setIfInBounds i true) (upd vs i v) w' (by simpa using hq) ?_ (Hg _ _ _ hw (ZfH hX i hL)) ?_ ?_ ?_ ?_
    ·have e2:((List.range (l++t0).length).filter fun j=>!(listed.setIfInBounds i true).getD j true)=((List.range (l++t0).length).filter fun j=>!listed.getD j true).filter fun j=>j != i:=by
      rw[List.filter_filter];refine List.filter_congr fun j hj=>?_
      by_cases ha:j=i
      ·subst ha;have Hb:j<listed.size:=by omega
       simp[Array.getD_eq_getD_getElem?,Hb]
      ·rw[getD_set_ne _ (Ne.symm ha)];simp[ha]
     rw[e2];have h3:i∈(List.range (l++t0).length).filter fun j=>!listed.getD j true:=by
      rw[List.mem_filter];exact⟨List.mem_range.2 h4,by simp[h1]⟩
     have:=(List.length_filter_lt_length_iff_exists (p:=fun j=>j != i) (l:=(List.range (l++t0).length).filter fun j=>!listed.getD j true)).2 ⟨i,h3,by simp⟩
     omega
    ·rw[h5]at hg;by_cases hJ:i∈keys
     ·rw[WI (by omega) hB h0 hJ];rw[if_pos (by simpa using hJ)]at hg;exact hg
     ·rw[WH hJ];rw[if_neg (by simpa using hJ)]at hg;exact hg
    ·intro j p hp hH x hx hZ;by_cases ha:j=i
     ·subst ha;have:=hc.symm.trans hp;cases this
      exact getD_set_true (hu x hx hZ)
     ·rw[getD_set_ne _ (Ne.symm ha)]at hH;exact getD_set_true (ht j p hp hH x hx hZ)
    ·intro j hj hN;by_cases ha:j=i
     ·subst ha;rw[Wh];exact hv
     ·rw[Xb _ _ ha];rw[getD_set_ne _ (Ne.symm ha)]at hN;by_cases hY:i=pv
      ·subst hY;exact hF _ _ _ _ ha (hk j hj hN) (ZfH hX i hL)
      ·exact Hh _ _ _ _ (hk j hj hN) (Zhm hY hL)
    ·intro j hj hH;rw[getD_set_ne _ (by omega)];exact hm j hj hH
end
def AllBut (S:Nat→Prop) (pv:Nat):List (Value→World→Prop)→Nat→Prop
 | [],_=>True
 | f::r,k=>(k≠pv→Yd S f)∧AllBut S pv r (k+1)
theorem Jw {S : Nat→Prop} {pv:Nat}:∀ (l:List (Value→World→Prop)) (k:Nat),AllBut S pv l k→∀ i v w w',k+i≠pv→Zd l i v w→Turn S w w'→Zd l i v w'
 | [],_,_,_,_,_,_,_,h,_=>h
 | _::_,k,hl,0,v,w,w',hn,h,t=>hl.1 hn v w w' h t
 | _::r,k,hl,i+1,v,w,w',hn,h,t=>Jw r (k+1) hl.2 i v w w' (by omega) h t
theorem Z4 {P : Program} {Q : Exit→Act→World→Prop} {all:List Oper} {a0:Act} {w0:World} {id:Nat} (n pv:Nat) (keys los hg incs:List Nat) (S:Nat→Prop) (Ph:Nat→World→Prop) (hm:P.follows .mixedOrders=true)
  (hd:ZR (all.take n)=true) (hb:ZU all 0=true) (hf:YU all n=true) (hn:n≤all.length) (hk:boundsKT all n keys los hg incs=true) (Fs:List (Value→World→Prop)) (hF:AllBut S pv Fs 0) (hp:Wt Fs) (hj:Ph 0 w0.drew)
  (hs:Jj pv (Turn S) Since Ph P all.toArray (all.take n) Q (Zd Fs) a0 w0 (all.take n) los hg incs 0)
  (he:∀ vs w,Turn S w0 w→Ph keys.length w→Zc (Zd Fs) vs w 0 n→wpList P all.toArray Q (all.drop n) (putAll (all.take n) 0 vs a0) w):(Code.region id all.toArray true).wp P Q a0 w0:=by
 refine wp_region_any hm ?_;have hc:(all.take n).length=n:=by rw[List.length_take];omega
 have ha:all.take n++all.drop n=all:=List.take_append_drop n all;have e:=Xc (YA (all.take n) a0) a0 (all.take n) 0 (fun i o d hi hh=>by simp only[YA,Nat.zero_add,hi,Option.bind_some,hh]);have h:=KQ (l:=all.take n) (t0:=all.drop n) (P:=P) (Q:=Q) (F:=Zd Fs) (a0:=a0) (w0:=w0) (pv:=pv) (R:=Turn S) (R2:=Since) (by rw[ha,hc];exact hk) (fun _ _ _=>Turn.trans) (fun i v w w' hi hv ht=>Jw Fs 0 hF i v w w' (by omega) hv ht) (X9 Fs hp) (fun a b h=>Turn.since h) hd (by rw[ha];exact hb) (by rw[ha,hc];exact hf) (by rw[ha];exact hs) (by rw[ha,hc];exact he)
  all.length (Array.replicate all.length false) (YA (all.take n) a0) { w0 with drawn:=w0.drawn+1 } (by rw[ha];simp) (by rw[ha];exact Nat.le_trans (List.length_filter_le _ _) (by simp)) (Turn.since (Since.refl w0).drew)
  (by
   have:ZJ keys (Array.replicate all.length false)=0:=by
    unfold ZJ;rw[List.countP_eq_zero];intro k _;simp[Array.getD_eq_getD_getElem?,Array.getElem?_replicate];split<;>rfl
   rw[this];exact hj)
  (fun i o ho hl=>by
   have hi:i<all.length:=by rw[←ha];exact (List.getElem?_eq_some_iff.1 ho).1
   simp[Array.getD_eq_getD_getElem?,hi]at hl)
  (fun i hi hl=>by
   have:i<all.length:=by omega
   simp[Array.getD_eq_getD_getElem?,this]at hl)
  (fun i _ hi=>by
   rw[ha]at hi;simp[Array.getD_eq_getD_getElem?,hi])
 rw[e,ha]at h;simpa using h
def ZW {α:Type} (f:α→List Value) (U:TypeId) (S:Nat→Prop) (x:α) (v:Value) (w:World):Prop:=∃ b,v=.slice (some ⟨b,0,none⟩) 1 1∧HeapIs w b (f x).toArray U∧¬ S b
theorem ZW.stable {α:Type} (f:α→List Value) (U:TypeId) (S:Nat→Prop) (x:α):Z7 (ZW f U S x):=fun v w w' ⟨b,h1,h2,h3⟩ s=>⟨b,h1,h2.keep s,h3⟩
theorem ZW.stableT {α:Type} (f:α→List Value) (U:TypeId) (S:Nat→Prop) (x:α):Yd S (ZW f U S x):=fun v w w' ⟨b,h1,h2,h3⟩ t=>⟨b,h1,h2.turn t h3,h3⟩
def Yb {α:Type} (f:α→List Value) (sz:Nat) (U:TypeId) (w0:World) (v0:Value) (xs:List α) (v:Value) (w:World):Prop:=∃ wa,Since w0 wa∧Turn (fun q=>v0.ownBlock=some q) wa w∧ZP wa v0 v∧OwnRow f sz U 0 w v xs
theorem Yb.stable {α:Type} (f:α→List Value) (sz:Nat) (U:TypeId) (w0:World) (v0:Value) (xs:List α):Z7 (Yb f sz U w0 v0 xs):=fun v w w' ⟨wa,h1,h2,h3,h4⟩ s=>⟨wa,h1,h2.trans (Turn.since s),h3,OwnRow.keep h4 s⟩
def JI (r:Except Int PSt) (e params:Int) (bl:List FBlk):Prop:=match r with
 | .error n=>e=n∧n≠0
 | .ok s=>e=0∧s.params=params∧s.blocks=bl.map FBlk.d
def Vk (l:List ByteArray) (k:Nat):Int:=if l≠[]∧((l.take k).drop 1).all (fun w=>colons w==1)=true then 0 else 70
theorem Zd8 {l : List ByteArray} {k : Nat} {x : ByteArray} (h:l[k]? = some x) (hk:1≤k):Yj (Vk l k) (((colons x:Nat):Int) != 1) 70=Vk l (k+1):=by
 have ha:=(List.getElem?_eq_some_iff.1 h).1;have ht:(l.take (k+1)).drop 1=(l.take k).drop 1++[x]:=by
  rw[List.take_add_one,h,List.drop_append_of_le_length (by rw[List.length_take];omega)];rfl
 unfold Vk Yj;rw[ht,List.all_append];have hb:(((colons x:Nat):Int) != 1) = !(colons x==1):=by
  by_cases hc:colons x=1
  ·rw[hc];rfl
  ·have h2:((colons x:Nat):Int)≠1:=by omega
   rw[bne_iff_ne.2 h2,beq_eq_false_iff_ne.2 hc];rfl
 rw[hb];by_cases h0:l=[]
 ·rw[h0]at ha;exact absurd ha (Nat.not_lt_zero _)
 ·cases h1:((l.take k).drop 1).all (fun w=>colons w==1)<;>cases h2:(colons x==1)<;>simp[h0,h2]
def VI (d:ByteArray) (r:List ByteArray) (k:Nat):Int:=if Ya d=true∧(r.take k).all Wa=true then 0 else 71
theorem ZaK (d:ByteArray) (r:List ByteArray):numsE 0 [d]=VI d r 0:=by
 unfold numsE VI ZZ;cases h:Ya d<;>simp[h]
theorem ZaL {d : ByteArray} {r : List ByteArray} {k : Nat} {x : ByteArray} (h:r[k]? = some x):numsE (VI d r k) [YQ x,Yv x]=VI d r (k+1):=by
 unfold VI numsE ZZ;rw[List.take_add_one,h,List.all_append];have:Wa x=(Ya (YQ x)&&Ya (Yv x)):=rfl
 cases h1:Ya d<;>cases h2:(r.take k).all Wa<;>cases h3:Ya (YQ x)<;>cases h4:Ya (Yv x)<;>simp[this,h3,h4]
theorem Zbx (d:ByteArray) (r:List ByteArray):VI d r r.length=if (Ya d&&r.all Wa)=true then 0 else 71:=by
 unfold VI;rw[List.take_length];cases Ya d<;>cases r.all Wa<;>rfl
theorem Qx {r : List ByteArray} {k : Nat} {x : ByteArray} (h:r[k]? = some x):(r.take (k+1)).map Xy=(r.take k).map Xy++[(ZS (YQ x),ZS (Yv x))]:=by
 rw[List.take_add_one,h];simp[Xy]
theorem QE (s:ByteArray):(YQ s).size≤s.size:=by
 have:(ZB 58 s.data.toList).length≤s.data.toList.length:=by unfold ZB;exact (List.takeWhile_sublist _).length_le
 rw[Zq]at this;show (ZB 58 s.data.toList).toArray.size≤_
 simpa using this
theorem KP (s:ByteArray):(Yv s).size≤s.size:=by
 have:(s.data.toList.drop ((ZB 58 s.data.toList).length+1)).length≤s.data.toList.length:=by rw[List.length_drop];omega
 rw[Zq]at this;exact this
theorem Zf2 {d : ByteArray} {r : List ByteArray} (s:PSt) (h:Vk (d::r) (r.length+1)≠0):phiSt s (d::r)=.error 70∧Vk (d::r) (r.length+1)=70:=by
 unfold Vk at h ⊢;rw[show (d::r).take (r.length+1)=d::r from List.take_of_length_le (by simp)]at h ⊢;show (if r.all (fun w=>colons w==1)=true then _ else _)=_∧_
 cases hc:r.all (fun w=>colons w==1) with
 | true=>exact absurd (if_pos ⟨by simp,hc⟩) h
 | false=>exact⟨rfl,if_neg (by simp[hc])⟩
theorem Ze8 {d : ByteArray} {r : List ByteArray} (s:PSt) (h:Vk (d::r) (r.length+1)=0):phiSt s (d::r)=if Ya d&&r.all Wa then .ok ⟨s.params,onLast s (fun b=>⟨b.phis++[⟨ZS d,r.map Xy⟩],b.ins,b.term⟩),s.pl⟩ else .error 71:=by
 unfold Vk at h;rw[show (d::r).take (r.length+1)=d::r from List.take_of_length_le (by simp)]at h;show (if r.all (fun w=>colons w==1)=true then _ else _)=_
 cases hc:r.all (fun w=>colons w==1) with
 | true=>rfl
 | false=>rw[if_neg (by simp[hc])]at h;cases h
theorem WP {bl:List FBlk} {b b':FBlk} (hb:bl[bl.length-1]? = some b) (s:PSt) (hs:s.blocks=bl.map FBlk.d) (g:Y1→Y1) (hg:b'.d=g b.d):onLast s g=(bl.set (bl.length-1) b').map FBlk.d:=by
 unfold onLast;rw[hs,List.length_map,List.map_set,hg];apply List.ext_getElem?
 intro i;rw[List.getElem?_modify,List.getElem?_set];by_cases hi:bl.length-1=i
 ·subst hi;rw[if_pos rfl,List.getElem?_map,hb];have:bl.length-1<(bl.map FBlk.d).length:=by rw[List.length_map];exact (List.getElem?_eq_some_iff.1 hb).1
  rw[if_pos this];simp
 ·rw[if_neg hi];simp[hi]
theorem ZcG {w : World} {base:Nat} {e : TypeId} {v x y:Value} (h:w.ownsRow base e 1 v 2 [x,y]):∃ g cap,v=.slice (some ⟨g,0,none⟩) 2 cap∧2≤cap∧cap≤maxLen∧base≤g∧g<w.heap.size∧w.cell? ⟨g,0,none⟩=some x∧w.cell? ⟨g,1,none⟩=some y:=by
 have hh:=h;obtain⟨_,h1|⟨g,cap,cur,h1,h2,h3,h4,h5,_⟩⟩:=h
 ·exact absurd h1.2 (by decide)
 ·subst h1;have hl:=World.ownsRow.lt hh g rfl;have hc:=World.ownsRow.cells hh (g:=g) rfl;exact⟨g,cap,rfl,h4,h5,h2,hl.2,by simpa [Addr.add]using hc 0 x rfl,by simpa [Addr.add]using hc 1 y rfl⟩
theorem WM {w : World} {base:Nat} {e : TypeId} {v x:Value} (h:w.ownsRow base e 1 v 1 [x]):∃ g cap,v=.slice (some ⟨g,0,none⟩) 1 cap∧1≤cap∧cap≤maxLen∧base≤g∧g<w.heap.size∧w.cell? ⟨g,0,none⟩=some x:=by
 have hh:=h;obtain⟨_,h1|⟨g,cap,cur,h1,h2,h3,h4,h5,_⟩⟩:=h
 ·exact absurd h1.2 (by decide)
 ·subst h1;have hl:=World.ownsRow.lt hh g rfl;have hc:=World.ownsRow.cells hh (g:=g) rfl;exact⟨g,cap,rfl,h4,h5,h2,hl.2,by simpa [Addr.add]using hc 0 x rfl⟩
theorem KA {S : Nat→Prop} {w : World} {a : Option Addr} {n c k d:Nat} (h:Stays S w (.slice a n c)):Stays S w (.slice a k d):=fun q hq=>h q (by cases a<;>exact hq)
theorem Ze {w : World} {b : Nat} {e : TypeId} {size n:Nat} {v : Value} {xs:List Value} (h:w.ownsRow b e size v n xs):∃ a cap,v=.slice a n cap:=by
 obtain⟨_,⟨h1,h2⟩|⟨g,cap,cur,h1,_⟩⟩:=h
 ·exact⟨none,0,by rw[h1,h2]⟩
 ·exact⟨_,cap,h1⟩
theorem YT {w : World} {base:Nat} {e : TypeId} {v : Value} {sz n:Nat} {xs:List Value} (h:w.ownsRow base e sz v n xs) (hn:0<n):∃ g cap,v=.slice (some ⟨g,0,none⟩) n cap∧n≤cap∧cap≤maxLen∧base≤g∧g<w.heap.size∧w.heap[g]?.isSome=true∧∀ (j:Nat) (x:Value),xs[j]? = some x→w.cell? ⟨g,j,none⟩=some x:=by
 have hh:=h;obtain⟨_,h1|⟨g,cap,cur,h1,h2,h3,h4,h5,_⟩⟩:=h
 ·omega
 ·subst h1;have hl:=World.ownsRow.lt hh g rfl;have hc:=World.ownsRow.cells hh (g:=g) rfl;refine⟨g,cap,rfl,h4,h5,h2,hl.2,by rw[h3];rfl,fun j x hj=>?_⟩;have:=hc j x hj;unfold Addr.add at this;split at this
  ·rename_i h0;subst h0;exact this
  ·simpa using this
theorem Zbl (w : World) (fx gx : ByteArray) (T : TypeId) (h1 : fx.size ≤ 1000000) (h2 : gx.size ≤ 1000000) : StrsIn (w.alloc (.cells #[.string fx, .string gx] T)) (.slice (some ⟨w.heap.size, 0, none⟩) 2 2) [fx, gx] := by
  have hb : HeapIs (w.alloc (.cells #[.string fx, .string gx] T)) w.heap.size #[.string fx, .string gx] T := HeapIs.new _ _ _
  refine .inr ⟨w.heap.size, 0, 2, rfl, Nat.le_refl _, by decide, hb.lt, fun j y hj => ?_⟩
  match j, hj with
  | 0, hj => obtain rfl : fx = y := by simpa using hj
             exact ⟨fun t ht => by obtain rfl : t = 0 := by omega
                                   exact hb.cell 0, h1⟩
  | 1, hj => obtain rfl : gx = y := by simpa using hj
             exact ⟨fun t ht => by obtain rfl : t = 0 := by omega
                                   exact hb.cell 1, h2⟩
  | j + 2, hj => simp at hj
theorem OwnRow.low {α:Type} {f : α→List Value} {sz:Nat} {U : TypeId} {base:Nat} {w : World} {v : Value} {l : List α} (h:OwnRow f sz U base w v l):OwnRow f sz U 0 w v l:=ZbC h (Nat.zero_le _)
theorem Zea {w : World} {base b2:Nat} {e : TypeId} {v : Value} {sz n:Nat} {xs:List Value} (h:w.ownsRow base e sz v n xs) (hl:∀ q,v.ownBlock=some q→b2≤q):w.ownsRow b2 e sz v n xs:=by
 obtain⟨h0,h1|⟨g,cap,cur,h1,h2,h3⟩⟩:=h
 ·exact⟨h0,.inl h1⟩
 ·exact⟨h0,.inr ⟨g,cap,cur,h1,hl g (by rw[h1];rfl),h3⟩⟩
theorem RowIn.first {α:Type} {f : α→List Value} {sz:Nat} {p : World→α→Prop} {w : World} {a : Option Addr} {n c k:Nat} {l : List α} (h:RowIn f sz p w (.slice a n c) l) (hk:k≤n) (h0:0<k):RowIn f sz p w (.slice a k c) (l.take k):=by
 rcases h with ⟨x,h1,h2⟩|⟨b,off,cap,h1,h2,h3,h4,h5⟩
 ·cases h1;omega
 ·cases h1
  have hl:(l.take k).length=k:=by rw[List.length_take];omega
  refine .inr ⟨b,off,_,by rw[hl],by omega,h3,h4,fun j x hj=>h5 j x ?_⟩;have:=(List.getElem?_eq_some_iff.1 hj).1
  rwa [List.getElem?_take_of_lt (by omega)]at hj
end Go.Proofs.YtmhojfpidedjeaaGreatDoor
