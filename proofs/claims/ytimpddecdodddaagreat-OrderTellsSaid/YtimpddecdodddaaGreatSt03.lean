import Derived.Test.YtimpddecdodddaaGreatSt02
import Derived.Deep.Slices
import Derived.WideShapes
namespace Go.Proofs.YtimpddecdodddaaGreat
open Go.Proofs.Tryz Go.RowKit Go.Lib
theorem zC {P:Prop} (h:P:=by
 rw[List.eq_nil_iff_forall_not_mem];intro i hi;rw[mem_ready]at hi;obtain⟨h1,o,ho,_⟩:=hi;have hf:i<l.length:=by simpa using (Array.getElem?_eq_some_iff.1 ho).1
 have:i∈(List.range l.length).filter fun i=>!listed.getD i true:=by
  rw[List.mem_filter];exact⟨List.mem_range.2 hf,by simp[h1]⟩
 have:=List.length_pos_of_mem this;omega):P:=h
theorem zF {P:Prop} (h:P:=by
 obtain⟨rfl,rfl,rfl⟩:=hh;go_wp2_with fail
 refine (W1.out _).mono ?_;rw[hl.out];rintro e w1 ⟨rfl,rfl⟩;go_wp2_with fail
 refine (W2.out _).mono ?_;rw[ho.out];rintro e w1 ⟨rfl,rfl⟩;go_wp2_with fail
 refine (W3.out _).mono ?_;rw[hw.out];rintro e w1 ⟨rfl,rfl⟩;go_wp2
 go_ret3
 exact⟨rfl,HS.out⟩):P:=h
theorem qR {P:Prop} (h:P:=by
 go_wp2_with fail
 refine (HF.out _ ((Since.refl _).alloc _)).mono ?_;rintro e w1 ⟨rfl,hc⟩;go_wp2
 go_ret
 exact⟨rfl,((Since.refl _).alloc _).trans hc⟩):P:=h
theorem qT {P:Prop} (h:P:=by
 have e:insSum blocks=insSum (blocks.take j)+insSum (blocks.drop j):=by
  unfold insSum;rw[←List.sum_append,←List.map_append,List.take_append_drop]
 omega):P:=h
theorem y5 {P:Prop} (h:P:=by have h1:=HF.out;rw[hc,if_neg h0]at h1;simp only[Prod.mk.injEq]at h1;exact⟨h1.1.symm,h1.2.1.symm,h1.2.2.symm⟩):P:=h
theorem y9 {P:Prop} (h:P:=by simp only[Option.getD_some,Prod.mk.injEq,Nat.zero_add]at this;exact⟨this.1.symm,this.2.1.symm,this.2.2.symm⟩):P:=h
theorem j1 {P:Prop} (h:P:=by
 rintro e w1 ⟨rfl,rfl⟩;go_wp2
 go_ret3
 exact⟨rfl,HS.out⟩):P:=h
theorem Wk {α:Type} (f:α→List Value) (sz:Nat) (hf:∀ x,(f x).length=sz):∀ (l:List α) (j t:Nat) (x:α),l[j]? = some x→t<sz→(l.flatMap f)[j*sz+t]? = (f x)[t]?
 | [],_,_,_,h,_=>by cases h
 | y::r,0,t,x,h,ht=>by
  obtain rfl:y=x:=by simpa using h
  rw[List.flatMap_cons,List.getElem?_append_left (by rw[hf];omega)]
  simp
 | y::r,j+1,t,x,h,ht=>by
  rw[List.flatMap_cons,List.getElem?_append_right (by rw[hf,Nat.succ_mul];omega),hf,show (j+1)*sz+t-sz=j*sz+t from by rw[Nat.succ_mul];omega]
  exact Wk f sz hf r j t x (by simpa using h) ht
theorem XS {α:Type} (f:α→List Value) (sz:Nat) (hf:∀ x,(f x).length=sz):∀ (l:List α),(l.flatMap f).length=l.length*sz
 | []=>by simp
 | y::r=>by rw[List.flatMap_cons,List.length_append,hf,XS f sz hf r,List.length_cons,Nat.succ_mul];omega
theorem Zv {w w':World} {base:Nat} {e : TypeId} {size n:Nat} {v : Value} {xs:List Value} (h:w.ownsRow base e size v n xs) (s:Since w w'):w'.ownsRow base e size v n xs:=by
 obtain⟨h0,h|⟨g,cap,cur,h1,h2,h3,h4⟩⟩:=h
 ·exact⟨h0,.inl h⟩
 ·exact⟨h0,.inr ⟨g,cap,cur,h1,h2,(Below.block s g (Array.getElem?_eq_some_iff.1 h3).1).trans h3,h4⟩⟩
def OwnRow {α:Type} (f:α→List Value) (sz:Nat) (e:TypeId) (base:Nat) (w:World) (v:Value) (l:List α):Prop:=w.ownsRow base e sz v l.length (l.flatMap f)
theorem OwnRow.keep {α:Type} {f : α→List Value} {sz:Nat} {e : TypeId} {base:Nat} {w w':World} {v : Value} {l : List α} (h:OwnRow f sz e base w v l) (s:Since w w'):OwnRow f sz e base w' v l:=Zv h s
theorem OwnRow.nil {α:Type} (f:α→List Value) (sz:Nat) (e:TypeId) (base:Nat) (w:World):OwnRow f sz e base w (.slice none 0 0) []:=⟨by simp,.inl ⟨rfl,rfl⟩⟩
theorem OwnRow.shape {α:Type} {f : α→List Value} {sz:Nat} {e : TypeId} {base:Nat} {w : World} {v : Value} {l : List α} (h:OwnRow f sz e base w v l):∃ a cap,v=.slice a l.length cap:=by
 obtain⟨_,⟨hv,hn⟩|⟨g,cap,cur,hv,_⟩⟩:=h
 ·exact⟨none,0,by rw[hv,hn]⟩
 ·exact⟨_,cap,hv⟩
theorem OwnRow.cells {α:Type} {f : α→List Value} {sz:Nat} (hf:∀ x,(f x).length=sz) {e : TypeId} {base:Nat} {w : World} {v : Value} {l : List α} (h:OwnRow f sz e base w v l) :
  (v=.slice none 0 0∧l=[])∨∃ g cap,v=.slice (some ⟨g,0,none⟩) l.length cap∧l.length≤cap∧cap≤maxLen∧base≤g∧g<w.heap.size∧∀ (j t:Nat) (x:α),l[j]? = some x→t<sz→w.cell? ⟨g,j*sz+t,none⟩=(f x)[t]?:=by
 obtain⟨_,⟨hv,hn⟩|⟨g,cap,cur,hv,hb,hg,hc,hm,hs,ha⟩⟩:=h
 ·exact .inl ⟨hv,List.length_eq_zero_iff.1 hn⟩
 ·refine .inr ⟨g,cap,hv,hc,hm,hb,(Array.getElem?_eq_some_iff.1 hg).1,fun j t x hj ht=>?_⟩;have hd:j<l.length:=(List.getElem?_eq_some_iff.1 hj).1;have he:j*sz+t<l.length*sz:=by
   have:(j+1)*sz≤l.length*sz:=Nat.mul_le_mul_right _ hd;rw[Nat.succ_mul]at this;omega
  have e1:=congrArg (fun x=>x[j*sz+t]?) ha;simp only[List.getElem?_take_of_lt he,Wk f sz hf l j t x hj ht]at e1;simp only[World.cell?,hg];simpa using e1
def Zby (l:List Oper) (k j:Nat):Bool:=match l[k]? with
 | some o=>o.after.toList.any fun e=>e.on==j&&(match e.ground with | .data=>true | .guard=>true | _=>false)
 | none=>false
def predB (l:List Oper) (j i:Nat):Bool:=match l[i]? with
 | some o=>o.after.toList.any fun e=>e.on==j&&Region.binds .any e
 | none=>false
def Xi (l:List Oper):Nat→Nat→Nat→Bool
 | 0,_,_=>false
 | f+1,k,i=>match l[i]? with
  | some o=>o.after.toList.any fun e=>Region.binds .any e&&(e.on==k||Xi l f k e.on)
  | none=>false
def getB (l:List Bool) (i:Nat):Bool:=l.getD i false
def Zbn (l:List Oper) (fixed cons fin:List Bool):Bool:=
 (List.range l.length).all fun i=>!getB cons i||(List.range l.length).all fun j =>
  j==i||getB fixed j||Xi l l.length i j||!(getB fin j||(List.range l.length).any fun k=>k != i&&Zby l k j&&!Xi l l.length k i)
def Wq (F:Nat→Value→World→Prop) (vs:Nat→Value) (w:World):List Edge→Prop
 | []=>True
 | e::r=>(match e.ground with | .data=>F e.on (vs e.on) w | .guard=>F e.on (vs e.on) w | _=>True)∧Wq F vs w r
theorem QW (F:Nat→Value→World→Prop) (vs:Nat→Value) (w:World):∀ (l:List Edge),(∀ e∈l,(e.ground=.data∨e.ground=.guard)→F e.on (vs e.on) w)→Wq F vs w l
 | [],_=>trivial
 | e::r,h=>by
  refine⟨?_,QW F vs w r fun x hx=>h x (List.mem_cons_of_mem _ hx)⟩
  have:=h e List.mem_cons_self
  revert this
  cases e.ground<;>intro this<;>first | trivial | exact this (.inl rfl) | exact this (.inr rfl)
def XB (F:Nat→Value→World→Prop) (vs:Nat→Value) (w:World):List Bool→Nat→Prop
 | [],_=>True
 | true::r,k=>F k (vs k) w∧XB F vs w r (k+1)
 | false::r,k=>XB F vs w r (k+1)
theorem VA (F:Nat→Value→World→Prop) (vs:Nat→Value) (w:World):∀ (l:List Bool) (k:Nat),(∀ i,getB l i=true→F (k+i) (vs (k+i)) w)→XB F vs w l k
 | [],_,_=>trivial
 | true::r,k,h=>⟨h 0 rfl,VA F vs w r (k+1) fun i hi=>by rw[show k+1+i=k+(i+1) from by omega];exact h (i+1) (by simpa [getB]using hi)⟩
 | false::r,k,h=>VA F vs w r (k+1) fun i hi=>by rw[show k+1+i=k+(i+1) from by omega];exact h (i+1) (by simpa [getB]using hi)
def Zeg (F:Nat→Value→World→Prop) (cons:List Bool) (w0:World) (i:Nat) (dst:Option Tmp) (a:Act) (w:World) (a':Act) (w':World):Prop:=
 ∃ v,a'=a.put dst v∧F i v w'∧(if getB cons i=true then Since w0 w' else Since w w')
def ZfA (Q:Exit→Act→World→Prop) (F:Nat→Value→World→Prop) (cons:List Bool) (w0:World) (i:Nat) (dst:Option Tmp) (a:Act) (w:World):Exit→Act→World→Prop
 | .normal,a',w'=>Zeg F cons w0 i dst a w a' w'
 | e,a',w'=>Q e a' w'
def Qb (P:Program) (all:Array Oper) (Q:Exit→Act→World→Prop) (F:Nat→Value→World→Prop) (cons:List Bool) (a0:Act) (w0:World):List Oper→Nat→Prop
 | [],_=>True
 | o::r,k=>(∀ (vs:Nat→Value) (w:World),Since w0 w→Wq F vs w o.after.toList →
   wpList P all (ZfA Q F cons w0 k o.dst (putAll all.toList 0 vs a0) w) [o] (putAll all.toList 0 vs a0) w)∧Qb P all Q F cons a0 w0 r (k+1)
theorem QG {P : Program} {all:Array Oper} {Q : Exit→Act→World→Prop} {F : Nat→Value→World→Prop} {cons:List Bool} {a0:Act} {w0:World}:∀ (l:List Oper) (k:Nat),Qb P all Q F cons a0 w0 l k→∀ (i:Nat) (o:Oper),l[i]? = some o→all[k+i]? = some o →
  ∀ (vs:Nat→Value) (w:World),Since w0 w→Wq F vs w o.after.toList→∀ K:Act→World→Prop,(∀ a' w',Zeg F cons w0 (k+i) o.dst (putAll all.toList 0 vs a0) w a' w'→K a' w') →
   wpOp P all Q (k+i) K (putAll all.toList 0 vs a0) w
 | [],_,_,_,_,h,_=>by cases h
 | p::r,k,h,0,o,ho,hall=>by
  obtain rfl:p=o:=by simpa using ho
  intro vs w hw hk K hK
  have:=h.1 vs w hw hk
  unfold wpOp
  rw[hall]
  simp only[wpList]at this
  show if _ then _ else _
  split
  ·rename_i hwant
   rw[if_pos hwant]at this
   rcases this with this|⟨h1,h2⟩
   ·exact .inl (Oper.wp_turn (fun _ _ _ h=>h) (fun h=>h) (Oper.wp_mono (fun a' w' h=>hK a' w' h) this))
   ·exact .inr ⟨h1,h2⟩
  ·rename_i hwant
   rw[if_neg hwant]at this
   exact hK _ _ this
 | p::r,k,h,i+1,o,ho,hall=>by
  have:=QG r (k+1) h.2 i o zaB kZ
  rw[show k+1+i=k+(i+1) from by omega]at this
  exact this
def Ws (l:List Oper) (listed:Array Bool):Prop:=∀ (i:Nat) (o:Oper),l[i]? = some o→listed.getD i false=true→∀ e∈o.after,Region.binds .any e=true→listed.getD e.on false=true
theorem YE {l : List Oper} {listed:Array Bool} (hc:Ws l listed):∀ (f k i:Nat),Xi l f k i=true→∀ o,l[i]? = some o→(∀ e∈o.after,Region.binds .any e=true→listed.getD e.on false=true)→listed.getD k false=true
 | 0,_,_,h,_,_,_=>by cases h
 | f+1,k,i,h,o,ho,hp=>by
  unfold Xi at h
  rw[ho]at h
  simp only[List.any_eq_true,Bool.and_eq_true,Bool.or_eq_true,beq_iff_eq]at h
  obtain⟨e,he,hb,h|h⟩:=h
  ·subst h;exact hp e zav hb
  ·have hl:=hp e zav hb
   cases ha:l[e.on]? with
   | none =>
    cases f with
    | zero=>cases h
    | succ f=>unfold Xi at h;rw[ha]at h;cases h
   | some o2=>exact YE hc f k e.on h o2 ha (hc e.on o2 ha hl)
section
variable {P : Program} {Q : Exit→Act→World→Prop} {l : List Oper} {F : Nat→Value→World→Prop} {a0:Act} {w0:World} {fixed cons fin:List Bool}
def Za4 (l:List Oper) (fin:List Bool) (listed:Array Bool) (j:Nat):Prop:=getB fin j=true∨∃ k,k<l.length∧listed.getD k true=false∧Zby l k j=true
theorem Zcj (hF:∀ i v w w',F i v w→Since w w'→F i v w') (h3:∀ i,getB fixed i=true→∀ v w w',F i v w→F i v w') (hY:Zbn l fixed cons fin=true) (hd:ZU l=true) (hb:ZW l 0=true)
  (hs:Qb P l.toArray Q F cons a0 w0 l 0)
  (he:∀ vs w,Since w0 w→XB F vs w fin 0→Q .normal (putAll l 0 vs a0) w) (h6:fin.length=l.length) :
  ∀ (fuel:Nat) (listed:Array Bool) (vs:Nat→Value) (w:World),listed.size=l.length→((List.range l.length).filter fun i=>!listed.getD i true).length≤fuel→Since w0 w→Ws l listed →
   (∀ i,i<l.length→listed.getD i true=true→Za4 l fin listed i→F i (vs i) w)→wpAny P .any l.toArray Q fuel listed (putAll l 0 vs a0) w:=by
 have hh:∀ (listed:Array Bool) (i:Nat),listed.size=l.length→i<l.length→listed.getD i false=listed.getD i true:=by
  intro listed i ha hi;have hu:i<listed.size:=zaK
  rw[Array.getD_eq_getD_getElem?,Array.getD_eq_getD_getElem?,Array.getElem?_eq_getElem hu];rfl
 have hP:∀ (listed:Array Bool) (vs:Nat→Value) (w:World),listed.size=l.length→Region.ready .any l.toArray listed=[]→Since w0 w →
   (∀ i,i<l.length→listed.getD i true=true→Za4 l fin listed i→F i (vs i) w)→Q .normal (putAll l 0 vs a0) w:=by
  intro listed vs w ha hr hw hk;have all:∀ (n i:Nat),i<n→i<l.length→listed.getD i true=true:=by
   intro n;induction n with
   | zero=>intro i h;omega
   | succ n ih =>
    intro i h1 h2
    cases hl:listed.getD i true with
    | true=>rfl
    | false =>
     exfalso
     have:i∈Region.ready .any l.toArray listed:=by
      rw[mem_ready];have ho:l[i]? = some l[i]:=List.getElem?_eq_getElem h2;refine⟨hl,l[i],by simp,fun e hE h7=>?_⟩;have hf:=Z4 l 0 hb i l[i] ho e hE h7;have:=ih e.on zaK zaK;rw[hh listed e.on ha zaK];exact this
     exact kL
  refine he vs w hw (VA F vs w fin 0 fun i hi=>?_);have hf:i<l.length:=by
   rw[←h6];rcases Nat.lt_or_ge i fin.length with h|h
   ·exact h
   ·simp[getB,List.getD_eq_getElem?_getD,List.getElem?_eq_none h]at hi
  rw[Nat.zero_add];exact hk i hf (all (i+1) i zaK hf) (.inl hi)
 intro fuel;induction fuel with
 | zero =>
  intro listed vs w ha hn hw _ hk;have hr:Region.ready .any l.toArray listed=[]:=by
   exact zC
  exact⟨hr,hP listed vs w ha hr hw hk⟩
 | succ fuel ih =>
  intro listed vs w ha hn hw hH hk;refine⟨fun hr=>hP listed vs w ha hr hw hk,fun i hi=>?_⟩;rw[mem_ready]at hi;obtain⟨h1,o,ho,hz⟩:=hi;have hm:l[i]? = some o:=by simpa using ho
  have hf:i<l.length:=(List.getElem?_eq_some_iff.1 hm).1;have hR:Wq F vs w o.after.toList:=by
   refine QW F vs w _ fun e hE hg=>?_
   have hQ:e∈o.after:=by simpa using hE
   have hJ:Region.binds .any e=true:=by unfold Region.binds;rcases hg with hg | hg<;>rw[hg]
   have Ha:=Z4 l 0 hb i o hm e hQ hJ;have hS:e.on<l.length:=zaK
   refine hk e.on hS (by rw[←hh listed e.on ha hS];exact hz e hQ hJ) (.inr ⟨i,hf,h1,?_⟩);unfold Zby;rw[hm];simp only[List.any_eq_true,Bool.and_eq_true,beq_iff_eq];refine⟨e,hE,rfl,?_⟩;rcases hg with hg|hg<;>rw[hg]
  have hA:=QG l 0 hs i o hm (by simpa using hm) vs w hw hR;rw[Nat.zero_add]at hA;refine hA _ fun a' w' ⟨v,h9,hv,ht⟩=>?_
  subst h9;have e:=Xe v l 0 vs a0 i o hm hd;rw[Nat.zero_add]at e;rw[show l.toArray.toList=l from rfl,←e];have h4:Since w0 w':=by
   split at ht
   ·exact ht
   ·exact hw.trans ht
  refine ih (listed.setIfInBounds i true) (upd vs i v) w' zaA ?_ h4 ?_ ?_
  ·have e2:((List.range l.length).filter fun j=>!(listed.setIfInBounds i true).getD j true)=((List.range l.length).filter fun j=>!listed.getD j true).filter fun j=>j != i:=by
    rw[List.filter_filter];refine List.filter_congr fun j hj=>?_
    by_cases hc:j=i
    ·subst hc;have hu:j<listed.size:=zaK
     simp[Array.getD_eq_getD_getElem?,hu]
    ·rw[getD_set_ne _ (Ne.symm hc)];simp[hc]
   rw[e2];have hZ:i∈(List.range l.length).filter fun j=>!listed.getD j true:=by
    rw[List.mem_filter];exact⟨List.mem_range.2 hf,by simp[h1]⟩
   have:=(List.length_filter_lt_length_iff_exists (p:=fun j=>j != i) (l:=(List.range l.length).filter fun j=>!listed.getD j true)).2 ⟨i,hZ,by simp⟩
   omega
  ·intro j p hp hV x hx hW;by_cases hc:j=i
   ·subst hc;have:=hm.symm.trans hp;cases this
    exact getD_set_true (hz x hx hW)
   ·rw[getD_set_ne _ (Ne.symm hc)]at hV;exact getD_set_true (hH j p hp hV x hx hW)
  ·intro j hj hN hB;by_cases hc:j=i
   ·subst hc;rw[XM];exact hv
   ·rw[YS _ _ hc];rw[getD_set_ne _ (Ne.symm hc)]at hN;have hM:Za4 l fin listed j:=by
     rcases hB with h|⟨k,hD,hC,hO⟩
     ·exact .inl h
     ·refine .inr ⟨k,hD,?_,hO⟩;by_cases hq:k=i
      ·subst hq;exact h1
      ·rwa [getD_set_ne _ (Ne.symm hq)]at hC
    have hX:=hk j hj hN hM
    cases hG:getB cons i with
    | false=>rw[hG]at ht;exact hF _ _ _ _ hX ht
    | true =>
     have hy:=List.all_eq_true.1 hY i (List.mem_range.2 hf);rw[hG]at hy;simp only[Bool.not_true,Bool.false_or]at hy;have hI:=List.all_eq_true.1 hy j (List.mem_range.2 hj);simp only[Bool.or_eq_true,beq_iff_eq,hc,false_or,Bool.not_eq_true']at hI;rcases hI with (h5|h8)|hL
     ·exact h3 j h5 _ _ _ hX
     ·exfalso
      have hT:l[j]? = some l[j]:=List.getElem?_eq_getElem hj;have:=YE hH _ i j h8 l[j] hT (hH j l[j] hT (by rw[hh listed j ha hj];exact hN));rw[hh listed i ha hf,h1]at this;cases this
     ·exfalso
      rw[Bool.or_eq_false_iff]at hL;rcases hB with h|⟨k,hD,hC,hO⟩
      ·rw[hL.1]at h;cases h
      ·have hq:k≠i:=by
        intro hq;subst hq;have hu:k<listed.size:=zaK
        simp[Array.getD_eq_getD_getElem?,hu]at hC
       have h0:listed.getD k true=false:=by rwa [getD_set_ne _ (Ne.symm hq)]at hC
       have hU:=List.any_eq_false.1 hL.2 k (List.mem_range.2 hD);simp only[hO,bne_iff_ne,ne_eq,hq,not_false_eq_true,Bool.and_eq_true,Bool.not_eq_true',true_and,Bool.not_eq_false]at hU;have hK:Xi l l.length k i=true:=by
        cases hr:Xi l l.length k i with
        | true=>rfl
        | false=>exact absurd hr (by simpa using hU)
       have:=YE hH _ k i hK o hm hz;rw[hh listed k ha hD,h0]at this;cases this
end
def Qi (f:Value→World→Prop):Prop:=∀ v w w',f v w→f v w'
def V8:List (Value→World→Prop)→List Bool→Prop
 | f::r,true::b=>Qi f∧V8 r b
 | _::r,false::b=>V8 r b
 | _,_=>True
theorem VX:∀ (l:List (Value→World→Prop)) (b:List Bool),b.length≤l.length→V8 l b→∀ i,getB b i=true→∀ v w w',Zj l i v w→Zj l i v w'
 | _,[],_,_,i,h,_,_,_,_=>by simp[getB]at h
 | [],_::_,hl,_,_,_,_,_,_,_=>by simp at hl
 | f::r,true::b,hl,h,0,_,v,w,w',hv=>h.1 v w w' hv
 | f::r,true::b,hl,h,i+1,hi,v,w,w',hv=>VX r b (by simpa using hl) h.2 i (by simpa [getB]using hi) v w w' hv
 | f::r,false::b,hl,h,0,hi,_,_,_,_=>by simp[getB]at hi
 | f::r,false::b,hl,h,i+1,hi,v,w,w',hv=>VX r b (by simpa using hl) h i (by simpa [getB]using hi) v w w' hv
theorem Is.fixed (x:Value):Qi (Is x):=fun _ _ _ h=>h
theorem Xp {P : Program} {Q : Exit→Act→World→Prop} {l : List Oper} {a0:Act} {w0:World} {id:Nat} (fixed cons fin:List Bool) (hm:P.follows .mixedOrders=true) (hd:ZU l=true) (hb:ZW l 0=true)
  (ha:Zbn l fixed cons fin=true) (hh:fin.length=l.length) (Fs:List (Value→World→Prop)) (hF:Wm Fs) (hg:V8 Fs fixed) (hc:fixed.length≤Fs.length)
  (hs:Qb P l.toArray Q (Zj Fs) cons a0 w0 l 0)
  (he:∀ vs w,Since w0 w→XB (Zj Fs) vs w fin 0→Q .normal (putAll l 0 vs a0) w):(Code.region id l.toArray true).wp P Q a0 w0:=by
 refine wp_region_any hm ?_;have e:=Y1 (Yj l a0) a0 l 0 (fun i o d hi hf=>by simp[Yj,hi,hf]);have h:=Zcj (X8 Fs hF) (VX Fs fixed hc hg) ha hd hb hs he hh l.length (Array.replicate l.length false) (Yj l a0) { w0 with drawn:=w0.drawn+1 } zaL (Nat.le_trans (List.length_filter_le _ _) zaL) (Since.refl w0).drew
  (fun i o ho hl=>by
   have hi:i<l.length:=(List.getElem?_eq_some_iff.1 ho).1;simp[Array.getD_eq_getD_getElem?,hi]at hl)
  (fun i hi hl=>by simp[Array.getD_eq_getD_getElem?,hi]at hl)
 rw[e]at h;simpa using h
open Go.RowKit Go.ChangeShapes Go.WideShapes
set_option linter.unusedVariables false
set_option maxHeartbeats 4000000
set_option maxRecDepth 100000
section
variable {H : Type} {enc:TypeId × Value→H} {P : Program} {w : World} {base:Nat} {held:Bool}
theorem Zcx {a : Addr} {v : Value} (h:w.cell? (a.add 0)=some v):a=⟨a.block,a.off,none⟩:=by
 obtain⟨b,o,s⟩:=a;have h':w.cell? ⟨b,o,s⟩=some v:=by simpa [Addr.add]using h
 have:=World.cell?_spot h';simp at this;simp[this]
theorem Zfe {b o i:Nat}:(⟨b,o,none⟩:Addr).add i=⟨b,o+i,none⟩:=by
 unfold Addr.add;split
 ·rename_i h;subst h;rfl
 ·rfl
theorem ZeD {a : Addr} {v : Value} (h:w.cell? a=some v):a.block<w.heap.size:=by
 by_cases ha:a.block<w.heap.size
 ·exact ha
 ·exfalso
  unfold World.cell? at h;rw[Array.getElem?_eq_none zaK]at h
  cases a.spot<;>simp at h
theorem ZcT {t e:TypeId} {k : IntKind} {fuel:Nat} {v : Value} {x : DataW H × List MemPlace} (ht:P.underlying t=some (.slice e)) (he:P.underlying e=some (.int k)) (hc:P.cellsOf e=1)
  (h:DataW.trod enc P w base (fun _=>true) held fuel t [v]=some x):∃ l:List Int,Zy k w v l∧∀ n∈l,(Lit.int k n).wf=true:=by
 rcases Go.Deep.open_slice1 ht hc h with ⟨hv,_⟩|⟨a,len,cap,m,n,V,D,Pl,hv,_,hl,hm,hd,_,hx⟩
 ·exact⟨[],.inl ⟨none,by simpa using hv,rfl⟩,fun n hn=>by cases hn⟩
 ·have hv:v=.slice (some a) len cap:=by simpa using hv
  obtain rfl:m=cap:=by simpa using hd
  have ha:∀ i,i<m→∃ z:Int,V i=.int k z∧(Lit.int k z).wf=true:=fun i hi=>by
   obtain⟨z,h1,_,h2⟩:=DataW.trod_int he (hx i hi).2;exact⟨z,by simpa using h1,h2⟩
  obtain⟨Z,hZ⟩:=Go.Deep.choose_lt ha;by_cases h0:m=0
  ·have hf:len=0:=zaK
   subst hf;subst h0;exact⟨[],.inl ⟨some a,hv,rfl⟩,fun n hn=>by cases hn⟩
  ·have h1:=(hx 0 zaK).1;have hs:=Zcx h1;have hb:=ZeD h1;have hh:a.block<w.heap.size:=by
    unfold Addr.add at hb;simpa using hb
   refine⟨(List.range len).map Z,.inr ⟨a.block,a.off,m,?_,by simpa using hl,hm,hh,?_⟩,?_⟩
   ·rw[hv,←hs];simp
   ·intro j z hj;have hg:j<len:=by
     have:=(List.getElem?_eq_some_iff.1 hj).1;simpa using this
    have hz:Z j=z:=by simpa [hg]using hj
    have:=(hx j zaK).1;rw[hs,Zfe]at this;rw[this,(hZ j zaK).1,hz]
   ·intro z hz;obtain⟨i,hi,rfl⟩:=List.mem_map.1 hz;have:=List.mem_range.1 hi;exact (hZ i zaK).2
end
theorem Tryz.cellsInt:prog.cellsOf 3=1:=by kernel_rfl
section
variable {H : Type} {enc:TypeId × Value→H} {w : World} {base:Nat} {held:Bool}
theorem Zc7 {P : Program} {t : TypeId} {k : IntKind} {fuel:Nat} {v : Value} {x : Option (DataW H × List MemPlace)} (ht:P.underlying t=some (.int k)) (hx:DataW.trod enc P w base (fun _=>true) held fuel t [v]=x) (hs:x.isSome=true) :
  ∃ n,v=.int k n∧(Lit.int k n).wf=true:=by
 obtain⟨y,rfl⟩:=Option.isSome_iff_exists.1 hs;obtain⟨n,h1,_,h2⟩:=DataW.trod_int ht hx;exact⟨n,by simpa using h1,h2⟩
end
def RowIn {α:Type} (f:α→List Value) (sz:Nat) (p:World→α→Prop) (w:World) (v:Value) (l:List α):Prop:=
 (∃ a,v=.slice a 0 0∧l=[])∨∃ b off cap,v=.slice (some ⟨b,off,none⟩) l.length cap∧l.length≤cap∧cap≤maxLen∧b<w.heap.size∧∀ (j:Nat) (x:α),l[j]? = some x→(∀ t,t<sz→w.cell? ⟨b,off+j*sz+t,none⟩=(f x)[t]?)∧p w x
theorem RowIn.keep {α:Type} {f : α→List Value} {sz:Nat} {p : World→α→Prop} (hp:∀ w w' x,p w x→Since w w'→p w' x) {w w':World} {v : Value} {l : List α} (h:RowIn f sz p w v l) (s:Since w w'):RowIn f sz p w' v l:=by
 rcases h with h|⟨b,off,cap,h1,h2,h3,h4,h5⟩
 ·exact .inl h
 ·exact .inr ⟨b,off,cap,h1,h2,h3,Nat.lt_of_lt_of_le h4 s.size,fun j x hj=>⟨fun t ht=>by rw[s.cell (p:=⟨b,off+j*sz+t,none⟩) h4];exact (h5 j x hj).1 t ht,hp _ _ _ (h5 j x hj).2 s⟩⟩
theorem RowIn.shape {α:Type} {f : α→List Value} {sz:Nat} {p : World→α→Prop} {w : World} {v : Value} {l : List α} (h:RowIn f sz p w v l):∃ a cap,v=.slice a l.length cap∧l.length≤maxLen:=by
 rcases h with ⟨a,h1,h2⟩|⟨b,off,cap,h1,h2,h3,_⟩
 ·subst h2;exact⟨a,0,h1,Nat.zero_le _⟩
 ·exact⟨_,cap,h1,zaK⟩
theorem RowIn.at {α:Type} {f : α→List Value} {sz:Nat} {p : World→α→Prop} {w : World} {a : Option Addr} {n cap:Nat} {l : List α} (h:RowIn f sz p w (.slice a n cap) l) {k : Nat} (hk:k<l.length) :
  ∃ b off x,a=some ⟨b,off,none⟩∧b<w.heap.size∧l[k]? = some x∧(∀ t,t<sz→w.cell? ⟨b,off+k*sz+t,none⟩=(f x)[t]?)∧p w x:=by
 rcases h with ⟨_,_,h2⟩|⟨b,off,cap',h1,_,_,h4,h5⟩
 ·subst h2;simp at hk
 ·cases h1
  have hx:l[k]? = some l[k]:=List.getElem?_eq_getElem hk;exact⟨b,off,_,rfl,h4,hx,h5 k _ hx⟩
section
variable {H : Type} {enc:TypeId × Value→H} {P : Program} {w : World} {base:Nat} {held:Bool}
end
theorem Since.drewN {a b:World} (h:Since a b) (n:Nat):Since a (b.drewN n):=⟨h.os,h.tape,h.output,h.size,h.block⟩
def plcells (x:PlV):List Value:=[.int .i64 x.m.op,.int .i64 x.m.d,.int .i64 x.m.e,.int .i64 x.m.a,.int .i64 x.m.b,.int .i64 x.m.c,.int .i32 x.m.imm,x.av,.int .i64 x.src]
theorem Zq (x:PlV):(plcells x).length=9:=rfl
def blcells (b:Zx):List Value:=[b.insv,.int .i64 b.fin.op,.int .i64 b.fin.a,.int .i64 b.fin.b,b.fin.tov,.int .i32 b.fin.imm]
theorem Z5 (b:Zx):(blcells b).length=6:=rfl
def XA (w:World) (x:PlV):Prop:=Zd w x.av x.m.args∧Xt x.m∧∀ q,x.av.ownBlock=some q→q<w.heap.size
theorem XA.keep (w w':World) (x:PlV) (h:XA w x) (s:Since w w'):XA w' x:=⟨h.1.keep s,h.2.1,fun q hq=>Nat.lt_of_lt_of_le (h.2.2 q hq) s.size⟩
abbrev Pls:=RowIn plcells 9 XA
def BlkOk (w:World) (b:Zx):Prop:=Pls w b.insv b.ins∧Zd w b.fin.tov b.fin.to∧b.ins.length≤100000
theorem BlkOk.keep (w w':World) (x:Zx) (h:BlkOk w x) (s:Since w w'):BlkOk w' x:=⟨RowIn.keep XA.keep h.1 s,h.2.1.keep s,h.2.2⟩
abbrev Za5:=RowIn blcells 6 BlkOk
def Xz (w:World) (p:Z2):Prop:=Za5 w p.bv p.blocks∧p.blocks.length≤100000
theorem Xz.keep {w w':World} {p : Z2} (h:Xz w p) (s:Since w w'):Xz w' p:=⟨RowIn.keep BlkOk.keep h.1 s,h.2⟩
def pv (p:Z2):Value:=.agg #[.int .i64 p.params,.int .i64 p.k,.int .i64 p.slots,p.bv]
def insSum (l:List Zx):Nat:=(l.map fun b=>b.ins.length).sum
theorem J7 {l : List Zx} {j : Nat} {b : Zx} (h:l[j]? = some b):insSum (l.take (j+1))=insSum (l.take j)+b.ins.length:=by
 unfold insSum;exact kJ
theorem Jo (M:Nat):∀ l:List Zx,(∀ b∈l,b.ins.length≤M)→insSum l≤l.length*M
 | [],_=>by simp[insSum]
 | b::r,h=>by
  have h1:=h b List.mem_cons_self
  have h2:=Jo M r fun x hx=>h x (List.mem_cons_of_mem _ hx)
  unfold insSum at h2 ⊢
  rw[List.map_cons,List.sum_cons,List.length_cons,Nat.succ_mul];omega
theorem Wo {k slots:Int}:∀ {l : List PlV} (i:Nat),(∀ x∈l,Y9 x.m k slots=0)→Y3 k slots l i=none
 | [],_,_=>rfl
 | x::r,i,h=>by unfold Y3;rw[if_pos (h x List.mem_cons_self)];exact Wo (i+1) fun y hy=>h y (List.mem_cons_of_mem _ hy)
theorem VY {k slots:Int}:∀ {l : List PlV} {j : Nat} {x : PlV} (i:Nat),l[j]? = some x→(∀ (t:Nat) (y:PlV),t<j→l[t]? = some y→Y9 y.m k slots=0)→Y9 x.m k slots≠0→Y3 k slots l i=some (Y9 x.m k slots,i+j)
 | [],_,_,_,h,_,_=>by cases h
 | y::r,0,x,i,h,_,hne=>by
  obtain rfl:y=x:=by simpa using h
  unfold Y3;rw[if_neg hne];rfl
 | y::r,j+1,x,i,h,hall,hne=>by
  unfold Y3
  rw[if_pos (hall 0 y zaK rfl),VY (i+1) (by simpa using h) (fun t z ht hz=>hall (t+1) z zaK (by simpa using hz)) hne]
  congr 2;omega
theorem Wp {k slots n:Int}:∀ {l : List Zx} (i:Nat),(∀ b∈l,Vf k slots n b=none)→X1 k slots n l i=none
 | [],_,_=>rfl
 | x::r,i,h=>by unfold X1;rw[h x List.mem_cons_self];exact Wp (i+1) fun y hy=>h y (List.mem_cons_of_mem _ hy)
theorem V6 {k slots n:Int}:∀ {l : List Zx} {j : Nat} {b : Zx} (i:Nat) {x : Int × Nat},l[j]? = some b→(∀ (t:Nat) (y:Zx),t<j→l[t]? = some y→Vf k slots n y=none)→Vf k slots n b=some x→X1 k slots n l i=some (x.1,i+j,x.2)
 | [],_,_,_,_,h,_,_=>by cases h
 | y::r,0,b,i,x,h,_,hb=>by
  obtain rfl:y=b:=by simpa using h
  unfold X1;rw[hb];rfl
 | y::r,j+1,b,i,x,h,hall,hb=>by
  unfold X1
  rw[hall 0 y zaK rfl]
  dsimp only
  rw[V6 (i+1) (by simpa using h) (fun t z ht hz=>hall (t+1) z zaK (by simpa using hz)) hb]
  congr 3;omega
def Zdl (x y z:Int) (w:World) (e:Ending) (w':World):Prop:=e=.returned (.tuple #[.int .i64 x,.int .i64 y,.int .i64 z])∧Since w w'
def FuncP (p:Z2):World→Ending→World→Prop:=Zdl (funcE p).1 ((funcE p).2.1:Nat) ((funcE p).2.2:Nat)
theorem ZdW (p:Z2) (w:World) (h:Xz w p):Calls prog 16 #[pv p] w (FuncP p w):=by
 obtain⟨params,k,slots,blocks,bv⟩:=p;obtain⟨hb,Hp⟩:=h;dsimp only at hb Hp;obtain⟨ba,bc,rfl,Hy⟩:=hb.shape;have H:=hid hb;have Hx:insSum blocks≤10000000000:=by
  have h1:=Jo 100000 blocks (fun b hm=>by
   obtain⟨j,hj⟩:=List.getElem?_of_mem hm;obtain⟨_,_,x,_,_,hx,_,hD⟩:=RowIn.at H.out (List.getElem?_eq_some_iff.1 hj).1;rw[hj]at hx;cases hx
   exact hD.2.2)
  have h2:blocks.length*100000≤100000*100000:=Nat.mul_le_mul_right _ Hp;omega
 have hZ:∀ j,j≤blocks.length→insSum (blocks.take j)≤insSum blocks:=fun j _=>by
  exact qT
 have hQ:=hid hZ;have W1:=hid (fun w=>Xd params 0 4 w);have W2:=hid (fun w=>Xd k 4 16 w);have W3:=hid (fun w=>Xd slots 0 16384 w);clear hb hZ Hy;generalize hF:funcE ⟨params,k,slots,blocks,.slice ba blocks.length bc⟩=F;unfold FuncP;rw[hF];obtain⟨fe,fb,fp⟩:=F;have Hs:Vr ⟨params,k,slots,blocks,.slice ba blocks.length bc⟩=(if params<0∨4<params∨k<4∨16<k∨slots<0∨16384<slots then 1 else if blocks.length=0 then 14 else if 512<blocks.length∨65536<blocks.length+insSum blocks then 2 else 0):=rfl;have HF:=hid hF;have hK:=hid Hs;clear hF Hs;unfold funcE at HF;have h6:∀ c:Int,Vr ⟨params,k,slots,blocks,.slice ba blocks.length bc⟩=c→c≠0→fe=c∧fb=0∧fp=0:=fun c hc h0=>by
  exact y5
 have hi:=hid h6;clear h6;unfold pv;dsimp only;go_enter func16,ntmps16
 go_wp2
 have HL:=hid Hx
 go_loopw [5,20] (fun n i wr=>∃ j:Nat,j≤blocks.length∧i=.int .i64 j∧n=.int .i64 ((blocks.length:Int)+((insSum (blocks.take j):Nat):Int))∧Since (w.alloc (.cells #[.int .i64 params,.int .i64 k,.int .i64 slots,.slice ba blocks.length bc] 27)) wr) (fun _ i _=>blocks.length-(intOf i).toNat)
 case atStart=>exact⟨0,Nat.zero_le _,rfl,by simp[insSum],.refl _⟩
 case round =>
  obtain⟨j,hj,rfl,rfl,hg⟩:=hrel;have hI:=hid hg;have HS:=hid (((Since.refl w).alloc (.cells #[.int .i64 params,.int .i64 k,.int .i64 slots,.slice ba blocks.length bc] 27)).trans hg);have hP:∀ i,wr.cell? ⟨w.heap.size,i,none⟩=_:=fun i=>hg.cell (p:=⟨w.heap.size,i,none⟩) zaL
  have HG:=hid hP;have hq:w.heap.size<wr.heap.size:=by have:=hg.size;simp at this;omega
  have Hi:=hid hq;clear hg hq;by_cases h3:j<blocks.length
  ·clear hP;obtain⟨B,off,x,rfl,hB,hx,hc,hD⟩:=RowIn.at H.out h3;obtain⟨xins,xinsv,⟨eop,ea,eb,eto,etov,eimm⟩⟩:=x;obtain⟨hf,hd,hA⟩:=hD;dsimp only at hf hd hA;obtain⟨ia,ic,rfl,h4⟩:=hf.shape;obtain⟨ta,tc,rfl⟩:=Zc hd;unfold maxLen at h4;have ha:=fun t ht=>(HS.out.cell (p:=⟨B,off+j*6+t,none⟩) hB).trans (hc t ht)
   have c0:wr.cell? ⟨B,off+j*6,none⟩=some (.slice ia xins.length ic):=ha 0 zaJ;have c1:wr.cell? ⟨B,off+j*6+1,none⟩=some (.int .i64 eop):=ha 1 zaJ;have c2:wr.cell? ⟨B,off+j*6+2,none⟩=some (.int .i64 ea):=ha 2 zaJ;have c3:wr.cell? ⟨B,off+j*6+3,none⟩=some (.int .i64 eb):=ha 3 zaJ;have c4:wr.cell? ⟨B,off+j*6+4,none⟩=some (.slice ta eto.length tc):=ha 4 zaJ;have c5:wr.cell? ⟨B,off+j*6+5,none⟩=some (.int .i32 eimm):=ha 5 zaJ;clear ha hc hB;have hX:=J7 hx;have hp:=hQ.out j zaK;have HM:=hQ.out (j+1) zaK;have HP:=hid hX;dsimp only at hX;generalize insSum (blocks.take j)=sj at *;have HU:sj+xins.length≤10000000000:=zaK
   clear hX hp HM hf hd hA hx;go_wp2
   go_roundw
   case rel=>exact⟨j+1,zaK,by go_num,by rw[HP.out];exact congrArg (Value.int .i64) (by push_cast;omega),hI.out.alloc _⟩
   case measure=>simp[intOf];omega
  ·obtain rfl:j=blocks.length:=zaK
   rw[List.take_length];have hp:=HL.out;generalize hN:insSum blocks=sN at *;clear hN hQ
   cases hG:(decide (0≤params)&&decide (params≤4)) with
   | false =>
    have he:params<0∨4<params∨k<4∨16<k∨slots<0∨16384<slots:=by simp at hG;omega
    have hJ:=hid he;have hl:=hid hG;clear hG he;have hh:=hi.out 1 (by rw[hK.out,if_pos hJ.out]) zaJ;obtain⟨rfl,rfl,rfl⟩:=hh;go_wp2_with fail
    refine (W1.out _).mono ?_;rw[hl.out];exact j1
   | true =>
   have hl:=hid hG;clear hG
   cases hE:(decide (4≤k)&&decide (k≤16)) with
   | false =>
    have he:params<0∨4<params∨k<4∨16<k∨slots<0∨16384<slots:=by simp at hE;omega
    have hJ:=hid he;have ho:=hid hE;clear hE he;have hh:=hi.out 1 (by rw[hK.out,if_pos hJ.out]) zaJ;obtain⟨rfl,rfl,rfl⟩:=hh;go_wp2_with fail
    refine (W1.out _).mono ?_;rw[hl.out];rintro e w1 ⟨rfl,rfl⟩;go_wp2_with fail
    refine (W2.out _).mono ?_;rw[ho.out];exact j1
   | true =>
   have ho:=hid hE;clear hE
   cases hv:(decide (0≤slots)&&decide (slots≤16384)) with
   | false =>
    have he:params<0∨4<params∨k<4∨16<k∨slots<0∨16384<slots:=by simp at hv;omega
    have hJ:=hid he;have hw:=hid hv;clear hv he;have hh:=hi.out 1 (by rw[hK.out,if_pos hJ.out]) zaJ;exact zF
   | true =>
   have hw:=hid hv;have he:¬ (params<0∨4<params∨k<4∨16<k∨slots<0∨16384<slots):=by
    have h1:=hl.out;have h2:=ho.out;simp at h1 h2 hv;omega
   have Ha:=hK.out;rw[if_neg he]at Ha;have Hh:=hid Ha;clear hv he Ha hK;by_cases h0:blocks.length=0
   ·have Hn:((blocks.length:Int)==0)=true:=by simp[h0]
    have hh:=hi.out 14 (by rw[Hh.out,if_pos h0]) zaJ;obtain⟨rfl,rfl,rfl⟩:=hh;have H0:=hid h0;clear h0;go_wp2_with fail
    refine (W1.out _).mono ?_;rw[hl.out];rintro e w1 ⟨rfl,rfl⟩;go_wp2_with fail
    refine (W2.out _).mono ?_;rw[ho.out];rintro e w1 ⟨rfl,rfl⟩;go_wp2_with fail
    refine (W3.out _).mono ?_;rw[hw.out];exact j1
   have Hn:((blocks.length:Int)==0)=false:=beq_eq_false_iff_ne.2 zaK;have h9:=Hh.out;rw[if_neg h0]at h9;have hV:=hid h9;clear h9 Hh h0;by_cases h1:512<blocks.length
   ·have hh:=hi.out 2 (by rw[hV.out,if_pos (.inl h1)]) zaJ;exact zF
   have HO:decide ((512:Int)<(blocks.length:Int))=false:=by simp;omega
   by_cases h2:65536<blocks.length+sN
   ·have Hm:decide ((65536:Int)<(blocks.length:Int)+(sN:Int))=true:=by simp;omega
    have hh:=hi.out 2 (by rw[hV.out,if_pos (.inr h2)]) zaJ;exact zF
   have Hm:decide ((65536:Int)<(blocks.length:Int)+(sN:Int))=false:=by simp;omega
   have h8:=hV.out;rw[if_neg zaK]at h8;have h7:=HF.out;rw[h8,if_pos rfl]at h7;have Hu:=hid h7;clear h8 h7 hV HF h1 h2 hi;go_wp2_with fail
   refine (W1.out _).mono ?_;rw[hl.out];rintro e w1 ⟨rfl,rfl⟩;go_wp2_with fail
   refine (W2.out _).mono ?_;rw[ho.out];rintro e w1 ⟨rfl,rfl⟩;go_wp2_with fail
   refine (W3.out _).mono ?_;rw[hw.out];rintro e w1 ⟨rfl,rfl⟩;go_wp2
   go_loopw [64] (fun i wr2=>∃ j:Nat,j≤blocks.length∧i=.int .i64 j∧(∀ (t:Nat) (y:Zx),t<j→blocks[t]? = some y→Vf k slots blocks.length y=none)∧Since (w.alloc (.cells #[.int .i64 params,.int .i64 k,.int .i64 slots,.slice ba blocks.length bc] 27)) wr2) (fun i _=>blocks.length-(intOf i).toNat)
   case atStart=>exact⟨0,Nat.zero_le _,rfl,fun t y ht=>by omega,hI.out⟩
   case round =>
    clear HG Hi HS hI Hn HO Hm hP;obtain⟨j,hj,rfl,hr,hg⟩:=hrel;have hR:=hid hr;have hI:=hid hg;have HS:=hid (((Since.refl w).alloc (.cells #[.int .i64 params,.int .i64 k,.int .i64 slots,.slice ba blocks.length bc] 27)).trans hg);have hq:w.heap.size<wr.heap.size:=by have:=hg.size;simp at this;omega
    have Hi:=hid hq;clear hg hq hr;by_cases h3:j<blocks.length
    ·obtain⟨B,off,x,rfl,hB,hx,hc,hD⟩:=RowIn.at H.out h3;obtain⟨xins,xinsv,⟨eop,ea,eb,eto,etov,eimm⟩⟩:=x;obtain⟨hf,hd,hA⟩:=hD;dsimp only at hf hd hA;obtain⟨ia,ic,rfl,h4⟩:=hf.shape;obtain⟨ta,tc,rfl⟩:=Zc hd;unfold maxLen at h4;have ha:=fun t ht=>(HS.out.cell (p:=⟨B,off+j*6+t,none⟩) hB).trans (hc t ht)
     have c0:wr.cell? ⟨B,off+j*6,none⟩=some (.slice ia xins.length ic):=ha 0 zaJ;have c1:wr.cell? ⟨B,off+j*6+1,none⟩=some (.int .i64 eop):=ha 1 zaJ;have c2:wr.cell? ⟨B,off+j*6+2,none⟩=some (.int .i64 ea):=ha 2 zaJ;have c3:wr.cell? ⟨B,off+j*6+3,none⟩=some (.int .i64 eb):=ha 3 zaJ;have c4:wr.cell? ⟨B,off+j*6+4,none⟩=some (.slice ta eto.length tc):=ha 4 zaJ;have c5:wr.cell? ⟨B,off+j*6+5,none⟩=some (.int .i32 eimm):=ha 5 zaJ;clear ha hc hB;have Hq:Vf k slots blocks.length ⟨xins,.slice ia xins.length ic,⟨eop,ea,eb,eto,.slice ta eto.length tc,eimm⟩⟩=(match Y3 k slots xins 0 with
      | some x=>some x
      | none=>if endE ⟨eop,ea,eb,eto,.slice ta eto.length tc,eimm⟩ k blocks.length=0 then none else some (endE ⟨eop,ea,eb,eto,.slice ta eto.length tc,eimm⟩ k blocks.length,xins.length)):=rfl
     have h5:∀ x,Vf k slots blocks.length ⟨xins,.slice ia xins.length ic,⟨eop,ea,eb,eto,.slice ta eto.length tc,eimm⟩⟩=some x→fe=x.1∧fb=j∧fp=x.2:=fun x HH=>by
      have:=Hu.out;rw[V6 0 hx hR.out HH]at this;exact y9
     have HE:=hid Hq;have Hg:=hid h5;have HX:=hid hx;have HI:=hid hf;have HT:=hid hd;have hM:=fun w2 (hs:Since w w2)=>ZeB ⟨eop,ea,eb,eto,.slice ta eto.length tc,eimm⟩ k blocks.length w2 (hd.keep hs)
     simp only[ev]at hM;generalize endE ⟨eop,ea,eb,eto,.slice ta eto.length tc,eimm⟩ k blocks.length=EE at *;have HD:=hid hM;clear Hq h5 hx hf hd hM;obtain⟨wa,HJ⟩:∃ x,x=wr:=⟨_,rfl⟩
     subst HJ;go_wp2
     go_loopw [72] (fun i wr=>∃ t:Nat,t≤xins.length∧i=.int .i64 t∧(∀ (u:Nat) (y:PlV),u<t→xins[u]? = some y→Y9 y.m k slots=0)∧Since (wa.alloc (.cells #[.slice ia xins.length ic,.int .i64 eop,.int .i64 ea,.int .i64 eb,.slice ta eto.length tc,.int .i32 eimm] 34)) wr) (fun i _=>xins.length-(intOf i).toNat)
     case atStart=>exact⟨0,Nat.zero_le _,rfl,fun u y hu=>by omega,.refl _⟩
     case round =>
      clear c0 c1 c2 c3 c4 c5;obtain⟨t,ht,rfl,hr,hY⟩:=hrel;have hC:=hid hr;have hT:=(hI.out.alloc (.cells #[.slice ia xins.length ic,.int .i64 eop,.int .i64 ea,.int .i64 eb,.slice ta eto.length tc,.int .i32 eimm] 34)).trans hY;have Hf:=hid hT;have hH:=hid (Since.trans ((Since.refl w).alloc _) hT);have Hc:=hid hY;have hS:w.heap.size<wr.heap.size:=by have:=hT.size;simp at this;omega
      have HR:=hid hS;clear hY hT hr hS;by_cases Hz:t<xins.length
      ·obtain⟨B2,off2,y,rfl,Ht,hy,Ho,Hw⟩:=RowIn.at HI.out Hz;obtain⟨ym,yav,ysrc⟩:=y;obtain⟨hW,Hk,_⟩:Zd w yav ym.args∧Xt ym∧_:=Hw;obtain⟨ya,yc,rfl⟩:=Zc hW;have ha:=fun t' HK=>(hH.out.cell (p:=⟨B2,off2+t*9+t',none⟩) Ht).trans (Ho t' HK)
       have c0:wr.cell? ⟨B2,off2+t*9,none⟩=some (.int .i64 ym.op):=ha 0 zaJ;have c1:wr.cell? ⟨B2,off2+t*9+1,none⟩=some (.int .i64 ym.d):=ha 1 zaJ;have c2:wr.cell? ⟨B2,off2+t*9+2,none⟩=some (.int .i64 ym.e):=ha 2 zaJ;have c3:wr.cell? ⟨B2,off2+t*9+3,none⟩=some (.int .i64 ym.a):=ha 3 zaJ;have c4:wr.cell? ⟨B2,off2+t*9+4,none⟩=some (.int .i64 ym.b):=ha 4 zaJ;have c5:wr.cell? ⟨B2,off2+t*9+5,none⟩=some (.int .i64 ym.c):=ha 5 zaJ;have c6:wr.cell? ⟨B2,off2+t*9+6,none⟩=some (.int .i32 ym.imm):=ha 6 zaJ;have c7:wr.cell? ⟨B2,off2+t*9+7,none⟩=some (.slice ya ym.args.length yc):=ha 7 zaJ;have c8:wr.cell? ⟨B2,off2+t*9+8,none⟩=some (.int .i64 ysrc):=ha 8 zaJ;have hO:∀ i,(wr.alloc (.cells #[.int .i64 ym.op,.int .i64 ym.d,.int .i64 ym.e,.int .i64 ym.a,.int .i64 ym.b,.int .i64 ym.c,.int .i32 ym.imm,.slice ya ym.args.length yc,.int .i64 ysrc] 38)).cell? ⟨w.heap.size,i,none⟩=_:=fun i=>(Hf.out.alloc _).cell (p:=⟨w.heap.size,i,none⟩) zaL
       have hL:=Zez ym (.slice ya ym.args.length yc) k slots _ (hW.keep (hH.out.alloc (.cells #[.int .i64 ym.op,.int .i64 ym.d,.int .i64 ym.e,.int .i64 ym.a,.int .i64 ym.b,.int .i64 ym.c,.int .i32 ym.imm,.slice ya ym.args.length yc,.int .i64 ysrc] 38))) Hk;unfold mv at hL;have Hl:Y9 ym k slots≠0→Y3 k slots xins 0=some (Y9 ym k slots,0+t):=fun HN=>VY 0 hy hC.out HN
       have HQ:=hid Hl;have HY:=hid hy;generalize Hr:Y9 ym k slots=IE at *;have HC:=hid Hr;clear Hr;have HB:=hid hL;clear ha Ho Ht hy hW Hk hL Hl;go_wp2_with fail
       refine HB.out.mono ?_;rintro e3 w3 ⟨rfl,hn⟩;have He:=hid (Hc.out.trans ((Since.refl wr).alloc _ |>.trans hn));have Hb:=hid (hH.out.trans ((Since.refl wr).alloc _ |>.trans hn));clear hn hO c0 c1 c2 c3 c4 c5 c6 c7 c8;by_cases hz:IE=0
       ·have hb:(IE != 0)=false:=by simp[hz]
        have HZ:=hid hz;clear hz;go_wp2
        go_roundw
        case rel=>exact⟨t+1,zaK,by go_num,fun u y hu hy=>by
         by_cases e:u=t
         ·subst e;rw[HY.out]at hy;cases hy;exact HC.out.trans HZ.out
         ·exact hC.out u y zaK hy,He.out⟩
        case measure=>simp[intOf];omega
       ·have hb:(IE != 0)=true:=by simpa using hz
        have hh:=Hg.out (IE,t) (by rw[HE.out,HQ.out hz,Nat.zero_add]);obtain⟨rfl,rfl,rfl⟩:=hh;clear hz;go_wp2
        go_ret3
        exact⟨rfl,Hb.out⟩
      ·obtain rfl:t=xins.length:=zaK
       have hk:Y3 k slots xins 0=none:=Wo 0 fun y hy=>by
        obtain⟨u,hu⟩:=List.getElem?_of_mem hy;exact hC.out u y (List.getElem?_eq_some_iff.1 hu).1 hu
       have hU:=HE.out;rw[hk]at hU;dsimp only at hU;have Hv:=hid hU;have hO:∀ i,wr.cell? ⟨w.heap.size,i,none⟩=_:=fun i=>Hf.out.cell (p:=⟨w.heap.size,i,none⟩) zaL
       have HA:∀ i,wr.cell? ⟨wa.heap.size,i,none⟩=_:=fun i=>Hc.out.cell (p:=⟨wa.heap.size,i,none⟩) zaL
       clear hU hk;go_wp2_with fail
       refine (HD.out _ hH.out).mono ?_;rintro e3 w3 ⟨rfl,hn⟩;have Hj:∀ i,w3.cell? ⟨wa.heap.size,i,none⟩=_:=fun i=>(Hc.out.trans hn).cell (p:=⟨wa.heap.size,i,none⟩) zaL
       have Hb:=hid (hH.out.trans hn);have He:=hid (Hf.out.trans hn);clear hn hO HA;by_cases hz:EE=0
       ·have hb:(EE != 0)=false:=by simp[hz]
        have HZ:=hid hz;clear hz;clear Hj;go_wp2
        go_roundw
        case rel=>exact⟨j+1,zaK,by go_num,fun u y hu hy=>by
         by_cases e:u=j
         ·subst e;rw[HX.out]at hy;cases hy;rw[Hv.out,if_pos HZ.out]
         ·exact hR.out u y zaK hy,He.out⟩
        case measure=>simp[intOf];omega
       ·have hb:(EE != 0)=true:=by simpa using hz
        have hh:=Hg.out (EE,xins.length) (by rw[Hv.out,if_neg hz]);obtain⟨rfl,rfl,rfl⟩:=hh;clear hz;go_wp2_with fail
        go_quiet (fail)
        go_wp2
        go_ret3
        exact⟨rfl,Since.drewN Hb.out _⟩
    ·obtain rfl:j=blocks.length:=zaK
     have hk:X1 k slots blocks.length blocks 0=none:=Wp 0 fun y hy=>by
      obtain⟨u,hu⟩:=List.getElem?_of_mem hy;exact hR.out u y (List.getElem?_eq_some_iff.1 hu).1 hu
     have hh:=Hu.out;rw[hk]at hh;simp only[Option.getD_none,Prod.mk.injEq]at hh;obtain⟨rfl,rfl,rfl⟩:=hh;clear hk;go_wp2
     go_ret3
     exact⟨rfl,HS.out⟩
theorem QJ (p:Z2) (w:World) (h:Xz w p):Calls prog 34 #[pv p] w (ZD (rightB p) w):=by
 obtain⟨ba,bc,hb,_⟩:=h.1.shape;have ha:=fun w2 (hs:Since w w2)=>ZdW p w2 (h.keep hs)
 unfold rightB;unfold FuncP at ha;generalize (funcE p).1=fe at *;generalize (funcE p).2.1=fb at *;generalize (funcE p).2.2=fp at *;have HF:=hid ha;clear ha h;unfold pv at HF;unfold pv;rw[hb]at HF ⊢;clear hb;go_enter func34,ntmps34
 exact qR
theorem Zbz {w w':World} {row:Option Nat} (h:w.grownBy w' row):Zb (fun k=>row=some k) w w':=⟨h.os,h.tape,h.output,h.size,fun k hk hn=>h.block k hk (fun e=>hn e.symm)⟩
theorem Zg {S : Nat→Prop} {w w':World} {base:Nat} {e : TypeId} {size n:Nat} {v : Value} {xs:List Value} (h:w.ownsRow base e size v n xs) (t:Zb S w w') (hn:∀ q,v.ownBlock=some q→¬ S q):w'.ownsRow base e size v n xs:=by
 obtain⟨h0,h|⟨g,cap,cur,h1,h2,h3,h4⟩⟩:=h
 ·exact⟨h0,.inl h⟩
 ·exact⟨h0,.inr ⟨g,cap,cur,h1,h2,(t.block g (Array.getElem?_eq_some_iff.1 h3).1 (hn g (by rw[h1];rfl))).trans h3,h4⟩⟩
theorem Xr {w : World} {b1 b2:Nat} {e1 e2:TypeId} {s1 s2 n1 n2:Nat} {v1 v2:Value} {x1 x2:List Value} (h1:w.ownsRow b1 e1 s1 v1 n1 x1) (h2:w.ownsRow b2 e2 s2 v2 n2 x2) (hd:e1≠e2) (q:Nat) (hq:v1.ownBlock=some q):¬ v2.ownBlock=some q:=by
 intro ha;obtain⟨_,⟨h,_⟩|⟨g,_,_,hv,_,hg,_⟩⟩:=h1
 ·rw[h]at hq;cases hq
 obtain⟨_,⟨h,_⟩|⟨g',_,_,hc,_,hb,_⟩⟩:=h2
 ·rw[h]at ha;cases ha
 rw[hv]at hq;rw[hc]at ha;have a:g=q:=Option.some.inj hq;have b:g'=q:=Option.some.inj ha;rw[a]at hg;rw[b]at hb;rw[hg]at hb;simp only[Option.some.injEq,Obj.cells.injEq]at hb;exact hd hb.2.1
theorem Zc6 {H : Type} {enc:TypeId × Value→H} {w : World} {base:Nat} {ha:Bool} {v : Value} {d : DataW H} {p : List MemPlace} {r : Reach} {b0:Nat} (hv:Value.okWide prog w r b0 22 v)
  (h:DataW.Trod enc prog w base (fun _=>true) ha 22 v d p):∃ l:List Int,Zd w v l∧∀ n∈l,(Lit.int .i64 n).wf=true:=by
 obtain⟨a,len,cap,rfl⟩:=okWide_slice underlying22 hv;obtain⟨fuel,hf⟩:=h;exact ZcT underlying22 underlying3 Tryz.cellsInt (by simpa [Value.cells]using hf)
end Go.Proofs.YtimpddecdodddaaGreat
