/- Rows of structs of the call's own: each datum is a list of cells. The rule of XRegion, for regions in which a value is used up: an operation that may write a row of the call's own (an append) keeps what is fixed, and what nobody that may still come asks for. How what came in is read: numbers, instru -/
import Derived.Test.YtkpbmbhejpmboaaPkB00
import Derived.Deep.Slices
import Derived.WideShapes
namespace Go.Proofs.Ytkpbmbhejpmboaa
open Go.RowKit
theorem flat_at {α:Type} (f:α→List Value) (sz:Nat) (hf:∀ x,(f x).length=sz):∀ (l:List α) (j t:Nat) (x:α),l[j]? = some x→t<sz→(l.flatMap f)[j*sz+t]? = (f x)[t]?
 | [],_,_,_,h,_=>by cases h
 | y::r,0,t,x,h,ht=>by
  obtain rfl:y=x:=by simpa using h
  rw[List.flatMap_cons,List.getElem?_append_left (by rw[hf];omega)]
  simp
 | y::r,j+1,t,x,h,ht=>by
  rw[List.flatMap_cons,List.getElem?_append_right (by rw[hf,Nat.succ_mul];omega),hf,show (j+1)*sz+t-sz=j*sz+t from by rw[Nat.succ_mul];omega]
  exact flat_at f sz hf r j t x (by simpa using h) ht
theorem flat_len {α:Type} (f:α→List Value) (sz:Nat) (hf:∀ x,(f x).length=sz):∀ (l:List α),(l.flatMap f).length=l.length*sz
 | []=>by simp
 | y::r=>by rw[List.flatMap_cons,List.length_append,hf,flat_len f sz hf r,List.length_cons,Nat.succ_mul];omega
theorem own_keep {w w':World} {base:Nat} {e : TypeId} {size n:Nat} {v : Value} {xs:List Value} (h:w.ownsRow base e size v n xs) (s:Since w w'):w'.ownsRow base e size v n xs:=by
 obtain⟨h0,h|⟨g,cap,cur,h1,h2,h3,h4⟩⟩:=h
 ·exact⟨h0,.inl h⟩
 ·exact⟨h0,.inr ⟨g,cap,cur,h1,h2,(Below.block s g (Array.getElem?_eq_some_iff.1 h3).1).trans h3,h4⟩⟩
def OwnRow {α:Type} (f:α→List Value) (sz:Nat) (e:TypeId) (base:Nat) (w:World) (v:Value) (l:List α):Prop:=w.ownsRow base e sz v l.length (l.flatMap f)
theorem OwnRow.keep {α:Type} {f : α→List Value} {sz:Nat} {e : TypeId} {base:Nat} {w w':World} {v : Value} {l : List α} (h:OwnRow f sz e base w v l) (s:Since w w'):OwnRow f sz e base w' v l:=own_keep h s
theorem OwnRow.nil {α:Type} (f:α→List Value) (sz:Nat) (e:TypeId) (base:Nat) (w:World):OwnRow f sz e base w (.slice none 0 0) []:=⟨by simp,.inl ⟨rfl,rfl⟩⟩
theorem OwnRow.shape {α:Type} {f : α→List Value} {sz:Nat} {e : TypeId} {base:Nat} {w : World} {v : Value} {l : List α} (h:OwnRow f sz e base w v l):∃ a cap,v=.slice a l.length cap:=by
 obtain⟨_,⟨hv,hn⟩|⟨g,cap,cur,hv,_⟩⟩:=h
 ·exact⟨none,0,by rw[hv,hn]⟩
 ·exact⟨_,cap,hv⟩
theorem OwnRow.cells {α:Type} {f : α→List Value} {sz:Nat} (hf:∀ x,(f x).length=sz) {e : TypeId} {base:Nat} {w : World} {v : Value} {l : List α} (h:OwnRow f sz e base w v l) :
  (v=.slice none 0 0∧l=[])∨∃ g cap,v=.slice (some ⟨g,0,none⟩) l.length cap∧l.length≤cap∧cap≤maxLen∧base≤g∧g<w.heap.size∧∀ (j t:Nat) (x:α),l[j]? = some x→t<sz→w.cell? ⟨g,j*sz+t,none⟩=(f x)[t]?:=by
 obtain⟨_,⟨hv,hn⟩|⟨g,cap,cur,hv,hb,hg,hc,hm,hs,htake⟩⟩:=h
 ·exact .inl ⟨hv,List.length_eq_zero_iff.1 hn⟩
 ·refine .inr ⟨g,cap,hv,hc,hm,hb,(Array.getElem?_eq_some_iff.1 hg).1,fun j t x hj ht=>?_⟩
  have hlt:j<l.length:=(List.getElem?_eq_some_iff.1 hj).1
  have hle:j*sz+t<l.length*sz:=by
   have:(j+1)*sz≤l.length*sz:=Nat.mul_le_mul_right _ hlt
   rw[Nat.succ_mul]at this;omega
  have e1:=congrArg (fun x=>x[j*sz+t]?) htake
  simp only[List.getElem?_take_of_lt hle,flat_at f sz hf l j t x hj ht]at e1
  simp only[World.cell?,hg]
  simpa using e1
def usesB (l:List Oper) (k j:Nat):Bool:=match l[k]? with
 | some o=>o.after.toList.any fun e=>e.on==j&&(match e.ground with | .data=>true | .guard=>true | _=>false)
 | none=>false
def predB (l:List Oper) (j i:Nat):Bool:=match l[i]? with
 | some o=>o.after.toList.any fun e=>e.on==j&&Region.binds .any e
 | none=>false
def aheadB (l:List Oper):Nat→Nat→Nat→Bool
 | 0,_,_=>false
 | f+1,k,i=>match l[i]? with
  | some o=>o.after.toList.any fun e=>Region.binds .any e&&(e.on==k||aheadB l f k e.on)
  | none=>false
def getB (l:List Bool) (i:Nat):Bool:=l.getD i false
def windows (l:List Oper) (fixed cons fin:List Bool):Bool:=
 (List.range l.length).all fun i=>!getB cons i||(List.range l.length).all fun j =>
  j==i||getB fixed j||aheadB l l.length i j||!(getB fin j||(List.range l.length).any fun k=>k != i&&usesB l k j&&!aheadB l l.length k i)
def KnowsD (F:Nat→Value→World→Prop) (vs:Nat→Value) (w:World):List Edge→Prop
 | []=>True
 | e::r=>(match e.ground with | .data=>F e.on (vs e.on) w | .guard=>F e.on (vs e.on) w | _=>True)∧KnowsD F vs w r
theorem knowsD_of (F:Nat→Value→World→Prop) (vs:Nat→Value) (w:World):∀ (l:List Edge),(∀ e∈l,(e.ground=.data∨e.ground=.guard)→F e.on (vs e.on) w)→KnowsD F vs w l
 | [],_=>trivial
 | e::r,h=>by
  refine⟨?_,knowsD_of F vs w r fun x hx=>h x (List.mem_cons_of_mem _ hx)⟩
  have:=h e List.mem_cons_self
  revert this
  cases e.ground<;>intro this<;>first | trivial | exact this (.inl rfl) | exact this (.inr rfl)
def KnowsFin (F:Nat→Value→World→Prop) (vs:Nat→Value) (w:World):List Bool→Nat→Prop
 | [],_=>True
 | true::r,k=>F k (vs k) w∧KnowsFin F vs w r (k+1)
 | false::r,k=>KnowsFin F vs w r (k+1)
theorem knowsFin_of (F:Nat→Value→World→Prop) (vs:Nat→Value) (w:World):∀ (l:List Bool) (k:Nat),(∀ i,getB l i=true→F (k+i) (vs (k+i)) w)→KnowsFin F vs w l k
 | [],_,_=>trivial
 | true::r,k,h=>⟨h 0 rfl,knowsFin_of F vs w r (k+1) fun i hi=>by rw[show k+1+i=k+(i+1) from by omega];exact h (i+1) (by simpa [getB]using hi)⟩
 | false::r,k,h=>knowsFin_of F vs w r (k+1) fun i hi=>by rw[show k+1+i=k+(i+1) from by omega];exact h (i+1) (by simpa [getB]using hi)
def Left2 (F:Nat→Value→World→Prop) (cons:List Bool) (w0:World) (i:Nat) (dst:Option Tmp) (a:Act) (w:World) (a':Act) (w':World):Prop:=
 ∃ v,a'=a.put dst v∧F i v w'∧(if getB cons i=true then Since w0 w' else Since w w')
def TwoQ (Q:Exit→Act→World→Prop) (F:Nat→Value→World→Prop) (cons:List Bool) (w0:World) (i:Nat) (dst:Option Tmp) (a:Act) (w:World):Exit→Act→World→Prop
 | .normal,a',w'=>Left2 F cons w0 i dst a w a' w'
 | e,a',w'=>Q e a' w'
def Steps2 (P:Program) (all:Array Oper) (Q:Exit→Act→World→Prop) (F:Nat→Value→World→Prop) (cons:List Bool) (a0:Act) (w0:World):List Oper→Nat→Prop
 | [],_=>True
 | o::r,k=>(∀ (vs:Nat→Value) (w:World),Since w0 w→KnowsD F vs w o.after.toList →
   wpList P all (TwoQ Q F cons w0 k o.dst (putAll all.toList 0 vs a0) w) [o] (putAll all.toList 0 vs a0) w)∧Steps2 P all Q F cons a0 w0 r (k+1)
theorem steps2_at {P : Program} {all:Array Oper} {Q : Exit→Act→World→Prop} {F : Nat→Value→World→Prop} {cons:List Bool} {a0:Act} {w0:World}:∀ (l:List Oper) (k:Nat),Steps2 P all Q F cons a0 w0 l k→∀ (i:Nat) (o:Oper),l[i]? = some o→all[k+i]? = some o →
  ∀ (vs:Nat→Value) (w:World),Since w0 w→KnowsD F vs w o.after.toList→∀ K:Act→World→Prop,(∀ a' w',Left2 F cons w0 (k+i) o.dst (putAll all.toList 0 vs a0) w a' w'→K a' w') →
   wpOp P all Q (k+i) K (putAll all.toList 0 vs a0) w
 | [],_,_,_,_,h,_=>by cases h
 | p::r,k,h,0,o,ho,hall=>by
  obtain rfl:p=o:=by simpa using ho
  intro vs w hw hk K hK
  have:=h.1 vs w hw hk
  unfold wpOp
  rw[hall]
  simp only[wpList]at this
  show if _ then _ else _
  split
  ·rename_i hwant
   rw[if_pos hwant]at this
   rcases this with this|⟨h1,h2⟩
   ·exact .inl (Oper.wp_turn (fun _ _ _ h=>h) (fun h=>h) (Oper.wp_mono (fun a' w' h=>hK a' w' h) this))
   ·exact .inr ⟨h1,h2⟩
  ·rename_i hwant
   rw[if_neg hwant]at this
   exact hK _ _ this
 | p::r,k,h,i+1,o,ho,hall=>by
  have:=steps2_at r (k+1) h.2 i o (by simpa using ho) (by rw[show k+1+i=k+(i+1) from by omega];exact hall)
  rw[show k+1+i=k+(i+1) from by omega]at this
  exact this
def Closed (l:List Oper) (listed:Array Bool):Prop:=∀ (i:Nat) (o:Oper),l[i]? = some o→listed.getD i false=true→∀ e∈o.after,Region.binds .any e=true→listed.getD e.on false=true
theorem ahead_listed {l : List Oper} {listed:Array Bool} (hc:Closed l listed):∀ (f k i:Nat),aheadB l f k i=true→∀ o,l[i]? = some o→(∀ e∈o.after,Region.binds .any e=true→listed.getD e.on false=true)→listed.getD k false=true
 | 0,_,_,h,_,_,_=>by cases h
 | f+1,k,i,h,o,ho,hp=>by
  unfold aheadB at h
  rw[ho]at h
  simp only[List.any_eq_true,Bool.and_eq_true,Bool.or_eq_true,beq_iff_eq]at h
  obtain⟨e,he,hb,h|h⟩:=h
  ·subst h;exact hp e (by simpa using he) hb
  ·have hl:=hp e (by simpa using he) hb
   cases ho2:l[e.on]? with
   | none =>
    cases f with
    | zero=>cases h
    | succ f=>unfold aheadB at h;rw[ho2]at h;cases h
   | some o2=>exact ahead_listed hc f k e.on h o2 ho2 (hc e.on o2 ho2 hl)
section
variable {P : Program} {Q : Exit→Act→World→Prop} {l : List Oper} {F : Nat→Value→World→Prop} {a0:Act} {w0:World} {fixed cons fin:List Bool}
def Needed (l:List Oper) (fin:List Bool) (listed:Array Bool) (j:Nat):Prop:=getB fin j=true∨∃ k,k<l.length∧listed.getD k true=false∧usesB l k j=true
theorem any_facts2 (hF:∀ i v w w',F i v w→Since w w'→F i v w') (hfix:∀ i,getB fixed i=true→∀ v w w',F i v w→F i v w') (hwin:windows l fixed cons fin=true) (hd:dstsApart l=true) (hb:edgesBack l 0=true)
  (hs:Steps2 P l.toArray Q F cons a0 w0 l 0)
  (he:∀ vs w,Since w0 w→KnowsFin F vs w fin 0→Q .normal (putAll l 0 vs a0) w) (hfl:fin.length=l.length) :
  ∀ (fuel:Nat) (listed:Array Bool) (vs:Nat→Value) (w:World),listed.size=l.length→((List.range l.length).filter fun i=>!listed.getD i true).length≤fuel→Since w0 w→Closed l listed →
   (∀ i,i<l.length→listed.getD i true=true→Needed l fin listed i→F i (vs i) w)→wpAny P .any l.toArray Q fuel listed (putAll l 0 vs a0) w:=by
 have hsame:∀ (listed:Array Bool) (i:Nat),listed.size=l.length→i<l.length→listed.getD i false=listed.getD i true:=by
  intro listed i hsz hi
  have hin:i<listed.size:=by omega
  rw[Array.getD_eq_getD_getElem?,Array.getD_eq_getD_getElem?,Array.getElem?_eq_getElem hin];rfl
 have hend:∀ (listed:Array Bool) (vs:Nat→Value) (w:World),listed.size=l.length→Region.ready .any l.toArray listed=[]→Since w0 w →
   (∀ i,i<l.length→listed.getD i true=true→Needed l fin listed i→F i (vs i) w)→Q .normal (putAll l 0 vs a0) w:=by
  intro listed vs w hsz hr hw hk
  have all:∀ (n i:Nat),i<n→i<l.length→listed.getD i true=true:=by
   intro n
   induction n with
   | zero=>intro i h;omega
   | succ n ih =>
    intro i h1 h2
    cases hl:listed.getD i true with
    | true=>rfl
    | false =>
     exfalso
     have:i∈Region.ready .any l.toArray listed:=by
      rw[mem_ready]
      have ho:l[i]? = some l[i]:=List.getElem?_eq_getElem h2
      refine⟨hl,l[i],by simp,fun e hee hbd=>?_⟩
      have hlt:=edges_back l 0 hb i l[i] ho e hee hbd
      have:=ih e.on (by omega) (by omega)
      rw[hsame listed e.on hsz (by omega)];exact this
     rw[hr]at this
     cases this
  refine he vs w hw (knowsFin_of F vs w fin 0 fun i hi=>?_)
  have hlt:i<l.length:=by
   rw[←hfl]
   rcases Nat.lt_or_ge i fin.length with h|h
   ·exact h
   ·simp[getB,List.getD_eq_getElem?_getD,List.getElem?_eq_none h]at hi
  rw[Nat.zero_add]
  exact hk i hlt (all (i+1) i (by omega) hlt) (.inl hi)
 intro fuel
 induction fuel with
 | zero =>
  intro listed vs w hsz hn hw _ hk
  have hr:Region.ready .any l.toArray listed=[]:=by
   rw[List.eq_nil_iff_forall_not_mem]
   intro i hi
   rw[mem_ready]at hi
   obtain⟨h1,o,ho,_⟩:=hi
   have hlt:i<l.length:=by simpa using (Array.getElem?_eq_some_iff.1 ho).1
   have:i∈(List.range l.length).filter fun i=>!listed.getD i true:=by
    rw[List.mem_filter];exact⟨List.mem_range.2 hlt,by simp[h1]⟩
   have:=List.length_pos_of_mem this
   omega
  exact⟨hr,hend listed vs w hsz hr hw hk⟩
 | succ fuel ih =>
  intro listed vs w hsz hn hw hcl hk
  refine⟨fun hr=>hend listed vs w hsz hr hw hk,fun i hi=>?_⟩
  rw[mem_ready]at hi
  obtain⟨h1,o,ho,hpre⟩:=hi
  have hol:l[i]? = some o:=by simpa using ho
  have hlt:i<l.length:=(List.getElem?_eq_some_iff.1 hol).1
  have hknow:KnowsD F vs w o.after.toList:=by
   refine knowsD_of F vs w _ fun e hee hg=>?_
   have hee':e∈o.after:=by simpa using hee
   have hbind:Region.binds .any e=true:=by unfold Region.binds;rcases hg with hg | hg<;>rw[hg]
   have hlt2:=edges_back l 0 hb i o hol e hee' hbind
   have hon:e.on<l.length:=by omega
   refine hk e.on hon (by rw[←hsame listed e.on hsz hon];exact hpre e hee' hbind) (.inr ⟨i,hlt,h1,?_⟩)
   unfold usesB
   rw[hol]
   simp only[List.any_eq_true,Bool.and_eq_true,beq_iff_eq]
   refine⟨e,hee,rfl,?_⟩
   rcases hg with hg|hg<;>rw[hg]
  have hstep:=steps2_at l 0 hs i o hol (by simpa using hol) vs w hw hknow
  rw[Nat.zero_add]at hstep
  refine hstep _ fun a' w' ⟨v,ha',hv,hw'⟩=>?_
  subst ha'
  have e:=putAll_upd v l 0 vs a0 i o hol hd
  rw[Nat.zero_add]at e
  rw[show l.toArray.toList=l from rfl,←e]
  have hw0:Since w0 w':=by
   split at hw'
   ·exact hw'
   ·exact hw.trans hw'
  refine ih (listed.setIfInBounds i true) (upd vs i v) w' (by simpa using hsz) ?_ hw0 ?_ ?_
  ·have e2:((List.range l.length).filter fun j=>!(listed.setIfInBounds i true).getD j true)=((List.range l.length).filter fun j=>!listed.getD j true).filter fun j=>j != i:=by
    rw[List.filter_filter]
    refine List.filter_congr fun j hj=>?_
    by_cases hji:j=i
    ·subst hji
     have hin:j<listed.size:=by omega
     simp[Array.getD_eq_getD_getElem?,hin]
    ·rw[getD_set_ne _ (Ne.symm hji)];simp[hji]
   rw[e2]
   have hmem:i∈(List.range l.length).filter fun j=>!listed.getD j true:=by
    rw[List.mem_filter];exact⟨List.mem_range.2 hlt,by simp[h1]⟩
   have:=(List.length_filter_lt_length_iff_exists (p:=fun j=>j != i) (l:=(List.range l.length).filter fun j=>!listed.getD j true)).2 ⟨i,hmem,by simp⟩
   omega
  ·intro j p hp hjl x hx hbx
   by_cases hji:j=i
   ·subst hji
    have:=hol.symm.trans hp;cases this
    exact getD_set_true (hpre x hx hbx)
   ·rw[getD_set_ne _ (Ne.symm hji)]at hjl
    exact getD_set_true (hcl j p hp hjl x hx hbx)
  ·intro j hj hlj hneed
   by_cases hji:j=i
   ·subst hji;rw[upd_same];exact hv
   ·rw[upd_other _ _ hji]
    rw[getD_set_ne _ (Ne.symm hji)]at hlj
    have hneed0:Needed l fin listed j:=by
     rcases hneed with h|⟨k,hk1,hk2,hk3⟩
     ·exact .inl h
     ·refine .inr ⟨k,hk1,?_,hk3⟩
      by_cases hki:k=i
      ·subst hki;exact h1
      ·rwa [getD_set_ne _ (Ne.symm hki)]at hk2
    have hFj:=hk j hj hlj hneed0
    cases hcons:getB cons i with
    | false=>rw[hcons]at hw';exact hF _ _ _ _ hFj hw'
    | true =>
     have hrow:=List.all_eq_true.1 hwin i (List.mem_range.2 hlt)
     rw[hcons]at hrow
     simp only[Bool.not_true,Bool.false_or]at hrow
     have hcell:=List.all_eq_true.1 hrow j (List.mem_range.2 hj)
     simp only[Bool.or_eq_true,beq_iff_eq,hji,false_or,Bool.not_eq_true']at hcell
     rcases hcell with (hfx|hah)|hno
     ·exact hfix j hfx _ _ _ hFj
     ·exfalso
      have hoj:l[j]? = some l[j]:=List.getElem?_eq_getElem hj
      have:=ahead_listed hcl _ i j hah l[j] hoj (hcl j l[j] hoj (by rw[hsame listed j hsz hj];exact hlj))
      rw[hsame listed i hsz hlt,h1]at this;cases this
     ·exfalso
      rw[Bool.or_eq_false_iff]at hno
      rcases hneed with h|⟨k,hk1,hk2,hk3⟩
      ·rw[hno.1]at h;cases h
      ·have hki:k≠i:=by
        intro hki;subst hki
        have hin:k<listed.size:=by omega
        simp[Array.getD_eq_getD_getElem?,hin]at hk2
       have hk2':listed.getD k true=false:=by rwa [getD_set_ne _ (Ne.symm hki)]at hk2
       have hnk:=List.any_eq_false.1 hno.2 k (List.mem_range.2 hk1)
       simp only[hk3,bne_iff_ne,ne_eq,hki,not_false_eq_true,Bool.and_eq_true,Bool.not_eq_true',true_and,Bool.not_eq_false]at hnk
       have hreach:aheadB l l.length k i=true:=by
        cases hr:aheadB l l.length k i with
        | true=>rfl
        | false=>exact absurd hr (by simpa using hnk)
       have:=ahead_listed hcl _ k i hreach o hol hpre
       rw[hsame listed k hsz hk1,hk2']at this;cases this
end
def FixedF (f:Value→World→Prop):Prop:=∀ v w w',f v w→f v w'
def AllFixed:List (Value→World→Prop)→List Bool→Prop
 | f::r,true::b=>FixedF f∧AllFixed r b
 | _::r,false::b=>AllFixed r b
 | _,_=>True
theorem nthF_fixed:∀ (l:List (Value→World→Prop)) (b:List Bool),b.length≤l.length→AllFixed l b→∀ i,getB b i=true→∀ v w w',nthF l i v w→nthF l i v w'
 | _,[],_,_,i,h,_,_,_,_=>by simp[getB]at h
 | [],_::_,hl,_,_,_,_,_,_,_=>by simp at hl
 | f::r,true::b,hl,h,0,_,v,w,w',hv=>h.1 v w w' hv
 | f::r,true::b,hl,h,i+1,hi,v,w,w',hv=>nthF_fixed r b (by simpa using hl) h.2 i (by simpa [getB]using hi) v w w' hv
 | f::r,false::b,hl,h,0,hi,_,_,_,_=>by simp[getB]at hi
 | f::r,false::b,hl,h,i+1,hi,v,w,w',hv=>nthF_fixed r b (by simpa using hl) h i (by simpa [getB]using hi) v w w' hv
theorem Is.fixed (x:Value):FixedF (Is x):=fun _ _ _ h=>h
theorem wp_region_windows {P : Program} {Q : Exit→Act→World→Prop} {l : List Oper} {a0:Act} {w0:World} {id:Nat} (fixed cons fin:List Bool) (hm:P.follows .mixedOrders=true) (hd:dstsApart l=true) (hb:edgesBack l 0=true)
  (hwin:windows l fixed cons fin=true) (hfl:fin.length=l.length) (Fs:List (Value→World→Prop)) (hF:AllStable Fs) (hfx:AllFixed Fs fixed) (hfl2:fixed.length≤Fs.length)
  (hs:Steps2 P l.toArray Q (nthF Fs) cons a0 w0 l 0)
  (he:∀ vs w,Since w0 w→KnowsFin (nthF Fs) vs w fin 0→Q .normal (putAll l 0 vs a0) w):(Code.region id l.toArray true).wp P Q a0 w0:=by
 refine wp_region_any hm ?_
 have e:=putAll_old (oldAt l a0) a0 l 0 (fun i o d hi hdst=>by simp[oldAt,hi,hdst])
 have h:=any_facts2 (nthF_stable Fs hF) (nthF_fixed Fs fixed hfl2 hfx) hwin hd hb hs he hfl l.length (Array.replicate l.length false) (oldAt l a0) { w0 with drawn:=w0.drawn+1 } (by simp) (Nat.le_trans (List.length_filter_le _ _) (by simp)) (Since.refl w0).drew
  (fun i o ho hl=>by
   have hi:i<l.length:=(List.getElem?_eq_some_iff.1 ho).1
   simp[Array.getD_eq_getD_getElem?,hi]at hl)
  (fun i hi hl=>by simp[Array.getD_eq_getD_getElem?,hi]at hl)
 rw[e]at h
 simpa using h
open Go.RowKit Go.ChangeShapes Go.WideShapes
set_option linter.unusedVariables false
section
variable {H : Type} {enc:TypeId × Value→H} {P : Program} {w : World} {base:Nat} {held:Bool}
theorem spot_none {a : Addr} {v : Value} (h:w.cell? (a.add 0)=some v):a=⟨a.block,a.off,none⟩:=by
 obtain⟨b,o,s⟩:=a
 have h':w.cell? ⟨b,o,s⟩=some v:=by simpa [Addr.add]using h
 have:=World.cell?_spot h'
 simp at this
 simp[this]
theorem add_at {b o i:Nat}:(⟨b,o,none⟩:Addr).add i=⟨b,o+i,none⟩:=by
 unfold Addr.add
 split
 ·rename_i h;subst h;rfl
 ·rfl
theorem cell_lt {a : Addr} {v : Value} (h:w.cell? a=some v):a.block<w.heap.size:=by
 by_cases hlt:a.block<w.heap.size
 ·exact hlt
 ·exfalso
  unfold World.cell? at h
  rw[Array.getElem?_eq_none (by omega)]at h
  cases a.spot<;>simp at h
theorem nums_trod {t e:TypeId} {k : IntKind} {fuel:Nat} {v : Value} {x : DataW H × List MemPlace} (ht:P.underlying t=some (.slice e)) (he:P.underlying e=some (.int k)) (hc:P.cellsOf e=1)
  (h:DataW.trod enc P w base (fun _=>true) held fuel t [v]=some x):∃ l:List Int,Nums k w v l∧∀ n∈l,(Lit.int k n).wf=true:=by
 rcases Go.Deep.open_slice1 ht hc h with ⟨hv,_⟩|⟨a,len,cap,m,n,V,D,Pl,hv,_,hl,hm,hmm,_,hx⟩
 ·exact⟨[],.inl ⟨none,by simpa using hv,rfl⟩,fun n hn=>by cases hn⟩
 ·have hv:v=.slice (some a) len cap:=by simpa using hv
  obtain rfl:m=cap:=by simpa using hmm
  have hnum:∀ i,i<m→∃ z:Int,V i=.int k z∧(Lit.int k z).wf=true:=fun i hi=>by
   obtain⟨z,h1,_,h2⟩:=DataW.trod_int he (hx i hi).2
   exact⟨z,by simpa using h1,h2⟩
  obtain⟨Z,hZ⟩:=Go.Deep.choose_lt hnum
  by_cases h0:m=0
  ·have hl0:len=0:=by omega
   subst hl0;subst h0
   exact⟨[],.inl ⟨some a,hv,rfl⟩,fun n hn=>by cases hn⟩
  ·have h1:=(hx 0 (by omega)).1
   have hs:=spot_none h1
   have hb:=cell_lt h1
   have hb':a.block<w.heap.size:=by
    unfold Addr.add at hb;simpa using hb
   refine⟨(List.range len).map Z,.inr ⟨a.block,a.off,m,?_,by simpa using hl,hm,hb',?_⟩,?_⟩
   ·rw[hv,←hs];simp
   ·intro j z hj
    have hjl:j<len:=by
     have:=(List.getElem?_eq_some_iff.1 hj).1;simpa using this
    have hz:Z j=z:=by simpa [hjl]using hj
    have:=(hx j (by omega)).1
    rw[hs,add_at]at this
    rw[this,(hZ j (by omega)).1,hz]
   ·intro z hz
    obtain⟨i,hi,rfl⟩:=List.mem_map.1 hz
    have:=List.mem_range.1 hi
    exact (hZ i (by omega)).2
end
theorem Try.cellsInt:Try.prog.cellsOf 3=1:=by kernel_rfl
section
variable {H : Type} {enc:TypeId × Value→H} {w : World} {base:Nat} {held:Bool}
theorem int_field {P : Program} {t : TypeId} {k : IntKind} {fuel:Nat} {v : Value} {x : Option (DataW H × List MemPlace)} (ht:P.underlying t=some (.int k)) (hx:DataW.trod enc P w base (fun _=>true) held fuel t [v]=x) (hs:x.isSome=true) :
  ∃ n,v=.int k n∧(Lit.int k n).wf=true:=by
 obtain⟨y,rfl⟩:=Option.isSome_iff_exists.1 hs
 obtain⟨n,h1,_,h2⟩:=DataW.trod_int ht hx
 exact⟨n,by simpa using h1,h2⟩
end
def RowIn {α:Type} (f:α→List Value) (sz:Nat) (p:World→α→Prop) (w:World) (v:Value) (l:List α):Prop:=
 (∃ a,v=.slice a 0 0∧l=[])∨∃ b off cap,v=.slice (some ⟨b,off,none⟩) l.length cap∧l.length≤cap∧cap≤maxLen∧b<w.heap.size∧∀ (j:Nat) (x:α),l[j]? = some x→(∀ t,t<sz→w.cell? ⟨b,off+j*sz+t,none⟩=(f x)[t]?)∧p w x
theorem RowIn.keep {α:Type} {f : α→List Value} {sz:Nat} {p : World→α→Prop} (hp:∀ w w' x,p w x→Since w w'→p w' x) {w w':World} {v : Value} {l : List α} (h:RowIn f sz p w v l) (s:Since w w'):RowIn f sz p w' v l:=by
 rcases h with h|⟨b,off,cap,h1,h2,h3,h4,h5⟩
 ·exact .inl h
 ·exact .inr ⟨b,off,cap,h1,h2,h3,Nat.lt_of_lt_of_le h4 s.size,fun j x hj=>⟨fun t ht=>by rw[s.cell (p:=⟨b,off+j*sz+t,none⟩) h4];exact (h5 j x hj).1 t ht,hp _ _ _ (h5 j x hj).2 s⟩⟩
theorem RowIn.shape {α:Type} {f : α→List Value} {sz:Nat} {p : World→α→Prop} {w : World} {v : Value} {l : List α} (h:RowIn f sz p w v l):∃ a cap,v=.slice a l.length cap∧l.length≤maxLen:=by
 rcases h with ⟨a,h1,h2⟩|⟨b,off,cap,h1,h2,h3,_⟩
 ·subst h2;exact⟨a,0,h1,Nat.zero_le _⟩
 ·exact⟨_,cap,h1,by omega⟩
theorem RowIn.at {α:Type} {f : α→List Value} {sz:Nat} {p : World→α→Prop} {w : World} {a : Option Addr} {n cap:Nat} {l : List α} (h:RowIn f sz p w (.slice a n cap) l) {k : Nat} (hk:k<l.length) :
  ∃ b off x,a=some ⟨b,off,none⟩∧b<w.heap.size∧l[k]? = some x∧(∀ t,t<sz→w.cell? ⟨b,off+k*sz+t,none⟩=(f x)[t]?)∧p w x:=by
 rcases h with ⟨_,_,h2⟩|⟨b,off,cap',h1,_,_,h4,h5⟩
 ·subst h2;simp at hk
 ·cases h1
  have hx:l[k]? = some l[k]:=List.getElem?_eq_getElem hk
  exact⟨b,off,_,rfl,h4,hx,h5 k _ hx⟩
section
variable {H : Type} {enc:TypeId × Value→H} {P : Program} {w : World} {base:Nat} {held:Bool}
end
def doneK (keys:List Nat) (listed:Array Bool):Nat:=keys.countP fun k=>listed.getD k false
def loK (l:List Oper) (keys:List Nat) (i:Nat):Nat:=keys.countP fun k=>aheadB l l.length k i
def hiK (l:List Oper) (keys:List Nat) (i:Nat):Nat:=keys.countP fun k=>!aheadB l l.length i k&&!(k==i)
def boundsK (l:List Oper) (keys los his incs:List Nat):Bool:=
 los==(List.range l.length).map (loK l keys)&&his==(List.range l.length).map (hiK l keys)&&incs==(List.range l.length).map (fun i=>if keys.contains i then 1 else 0)&&decide keys.Nodup&&keys.all (fun k=>decide (k<l.length))
def LeftK (R:World→World→Prop) (Ph:Nat→World→Prop) (F:Nat→Value→World→Prop) (i n:Nat) (dst:Option Tmp) (a:Act) (w:World) (a':Act) (w':World):Prop:=∃ v,a'=a.put dst v∧F i v w'∧R w w'∧Ph n w'
def OneQK (R:World→World→Prop) (Ph:Nat→World→Prop) (Q:Exit→Act→World→Prop) (F:Nat→Value→World→Prop) (i n:Nat) (dst:Option Tmp) (a:Act) (w:World):Exit→Act→World→Prop
 | .normal,a',w'=>LeftK R Ph F i n dst a w a' w'
 | e,a',w'=>Q e a' w'
def StepsK (R:World→World→Prop) (Ph:Nat→World→Prop) (P:Program) (all:Array Oper) (Q:Exit→Act→World→Prop) (F:Nat→Value→World→Prop) (a0:Act) (w0:World):List Oper→List Nat→List Nat→List Nat→Nat→Prop
 | o::r,lo::los,hi::his,inc::incs,k=>(∀ (p:Nat) (vs:Nat→Value) (w:World),lo≤p→p≤hi→R w0 w→Ph p w→Knows F vs w o.after.toList →
   wpList P all (OneQK R Ph Q F k (p+inc) o.dst (putAll all.toList 0 vs a0) w) [o] (putAll all.toList 0 vs a0) w)∧StepsK R Ph P all Q F a0 w0 r los his incs (k+1)
 | _,_,_,_,_=>True
theorem stepsK_at {R : World→World→Prop} {Ph:Nat→World→Prop} {P : Program} {all:Array Oper} {Q : Exit→Act→World→Prop} {F : Nat→Value→World→Prop} {a0:Act} {w0:World}:∀ (l:List Oper) (los his incs:List Nat) (k:Nat),StepsK R Ph P all Q F a0 w0 l los his incs k→los.length=l.length→his.length=l.length→incs.length=l.length→∀ (i:Nat) (o:Oper),l[i]? = some o→all[k+i]? = some o →
  ∀ (p:Nat) (vs:Nat→Value) (w:World),los.getD i 0≤p→p≤his.getD i 0→R w0 w→Ph p w→Knows F vs w o.after.toList→∀ K:Act→World→Prop,(∀ a' w',LeftK R Ph F (k+i) (p+incs.getD i 0) o.dst (putAll all.toList 0 vs a0) w a' w'→K a' w') →
   wpOp P all Q (k+i) K (putAll all.toList 0 vs a0) w
 | [],_,_,_,_,_,_,_,_,_,_,h,_=>by cases h
 | _::_,[],_,_,_,_,h,_,_,_,_,_,_=>by simp at h
 | _::_,_::_,[],_,_,_,_,h,_,_,_,_,_=>by simp at h
 | _::_,_::_,_::_,[],_,_,_,_,h,_,_,_,_=>by simp at h
 | p::r,lo::los,hi::his,inc::incs,k,h,_,_,_,0,o,ho,hall=>by
  obtain rfl:p=o:=by simpa using ho
  intro q vs w hlo hhi hw hph hk K hK
  have:=h.1 q vs w hlo hhi hw hph hk
  unfold wpOp
  rw[hall]
  simp only[wpList]at this
  show if _ then _ else _
  split
  ·rename_i hwant
   rw[if_pos hwant]at this
   rcases this with this|⟨h1,h2⟩
   ·exact .inl (Oper.wp_turn (fun _ _ _ h=>h) (fun h=>h) (Oper.wp_mono (fun a' w' h=>hK a' w' h) this))
   ·exact .inr ⟨h1,h2⟩
  ·rename_i hwant
   rw[if_neg hwant]at this
   exact hK _ _ this
 | p::r,lo::los,hi::his,inc::incs,k,h,h1,h2,h3,i+1,o,ho,hall=>by
  have:=stepsK_at r los his incs (k+1) h.2 (by simpa using h1) (by simpa using h2) (by simpa using h3) i o (by simpa using ho) (by rw[show k+1+i=k+(i+1) from by omega];exact hall)
  rw[show k+1+i=k+(i+1) from by omega]at this
  exact this
theorem doneK_same {keys:List Nat} {listed:Array Bool} {i : Nat} (h:i∉keys):doneK keys (listed.setIfInBounds i true)=doneK keys listed:=by
 unfold doneK
 refine List.countP_congr fun k hk=>?_
 have hne:i≠k:=fun e=>h (by rw[e];exact hk)
 rw[getD_set_ne _ hne]
theorem doneK_more {listed:Array Bool} {i : Nat} (hi:i<listed.size) (hl:listed.getD i false=false):∀ {keys:List Nat},keys.Nodup→i∈keys→doneK keys (listed.setIfInBounds i true)=doneK keys listed+1
 | [],_,h=>by cases h
 | k::r,hn,h=>by
  rw[List.nodup_cons]at hn
  have hset:(listed.setIfInBounds i true).getD i false=true:=by simp[Array.getD_eq_getD_getElem?,hi]
  by_cases hk:k=i
  ·subst hk
   have hs:=doneK_same (listed:=listed) hn.1
   unfold doneK at hs ⊢
   rw[List.countP_cons,List.countP_cons,hs,hset,hl]
   simp
  ·have hr:=doneK_more hi hl hn.2 ((List.mem_cons.1 h).resolve_left (fun e=>hk e.symm))
   unfold doneK at hr ⊢
   rw[List.countP_cons,List.countP_cons,hr,getD_set_ne _ (fun e=>hk e.symm)]
   omega
section
variable {P : Program} {Q : Exit→Act→World→Prop} {l : List Oper} {F : Nat→Value→World→Prop} {a0:Act} {w0:World} {R : World→World→Prop} {Ph:Nat→World→Prop} {keys los his incs:List Nat}
theorem any_factsK (hbd:boundsK l keys los his incs=true) (hRt:∀ a b c,R a b→R b c→R a c) (hF:∀ i v w w',F i v w→R w w'→F i v w') (hd:dstsApart l=true) (hb:edgesBack l 0=true)
  (hs:StepsK R Ph P l.toArray Q F a0 w0 l los his incs 0)
  (he:∀ vs w,R w0 w→Ph keys.length w→KnowsAll F vs w 0 l.length→Q .normal (putAll l 0 vs a0) w) :
  ∀ (fuel:Nat) (listed:Array Bool) (vs:Nat→Value) (w:World),listed.size=l.length→((List.range l.length).filter fun i=>!listed.getD i true).length≤fuel→R w0 w→Ph (doneK keys listed) w→Closed l listed →
   (∀ i,i<l.length→listed.getD i true=true→F i (vs i) w)→wpAny P .any l.toArray Q fuel listed (putAll l 0 vs a0) w:=by
 unfold boundsK at hbd
 simp only[Bool.and_eq_true,beq_iff_eq,decide_eq_true_eq,List.all_eq_true]at hbd
 obtain⟨⟨⟨⟨hlos,hhis⟩,hincs⟩,hnod⟩,hkeys⟩:=hbd
 have hend:∀ (listed:Array Bool) (vs:Nat→Value) (w:World),listed.size=l.length→Region.ready .any l.toArray listed=[]→R w0 w→Ph (doneK keys listed) w →
   (∀ i,i<l.length→listed.getD i true=true→F i (vs i) w)→Q .normal (putAll l 0 vs a0) w:=by
  intro listed vs w hsz hr hw hph hk
  have all:∀ (n i:Nat),i<n→i<l.length→listed.getD i true=true:=by
   intro n
   induction n with
   | zero=>intro i h;omega
   | succ n ih =>
    intro i h1 h2
    cases hl:listed.getD i true with
    | true=>rfl
    | false =>
     exfalso
     have:i∈Region.ready .any l.toArray listed:=by
      rw[mem_ready]
      have ho:l[i]? = some l[i]:=List.getElem?_eq_getElem h2
      refine⟨hl,l[i],by simp,fun e hee hbd=>?_⟩
      have hlt:=edges_back l 0 hb i l[i] ho e hee hbd
      have:=ih e.on (by omega) (by omega)
      have hin:e.on<listed.size:=by omega
      rw[Array.getD_eq_getD_getElem?,Array.getElem?_eq_getElem hin]at this ⊢
      simpa using this
     rw[hr]at this
     cases this
  have hfull:doneK keys listed=keys.length:=by
   unfold doneK
   rw[List.countP_eq_length]
   intro k hk
   have hkl:=hkeys k hk
   have:=all (k+1) k (by omega) hkl
   have hin:k<listed.size:=by omega
   rw[Array.getD_eq_getD_getElem?,Array.getElem?_eq_getElem hin]at this ⊢
   simpa using this
  rw[hfull]at hph
  exact he vs w hw hph (knowsAll_of F vs w _ 0 fun i _ hi=>hk i (by omega) (all (i+1) i (by omega) (by omega)))
 have hsame:∀ (listed:Array Bool) (i:Nat),listed.size=l.length→i<l.length→listed.getD i false=listed.getD i true:=by
  intro listed i hsz hi
  have hin:i<listed.size:=by omega
  rw[Array.getD_eq_getD_getElem?,Array.getD_eq_getD_getElem?,Array.getElem?_eq_getElem hin];rfl
 intro fuel
 induction fuel with
 | zero =>
  intro listed vs w hsz hn hw hph _ hk
  have hr:Region.ready .any l.toArray listed=[]:=by
   rw[List.eq_nil_iff_forall_not_mem]
   intro i hi
   rw[mem_ready]at hi
   obtain⟨h1,o,ho,_⟩:=hi
   have hlt:i<l.length:=by simpa using (Array.getElem?_eq_some_iff.1 ho).1
   have:i∈(List.range l.length).filter fun i=>!listed.getD i true:=by
    rw[List.mem_filter];exact⟨List.mem_range.2 hlt,by simp[h1]⟩
   have:=List.length_pos_of_mem this
   omega
  exact⟨hr,hend listed vs w hsz hr hw hph hk⟩
 | succ fuel ih =>
  intro listed vs w hsz hn hw hph hcl hk
  refine⟨fun hr=>hend listed vs w hsz hr hw hph hk,fun i hi=>?_⟩
  rw[mem_ready]at hi
  obtain⟨h1,o,ho,hpre⟩:=hi
  have hol:l[i]? = some o:=by simpa using ho
  have hlt:i<l.length:=(List.getElem?_eq_some_iff.1 hol).1
  have hknow:Knows F vs w o.after.toList:=by
   refine knows_of F vs w _ fun e hee hbind=>?_
   have hee':e∈o.after:=by simpa using hee
   have hlt2:=edges_back l 0 hb i o hol e hee' hbind
   have hon:e.on<l.length:=by omega
   refine hk e.on hon ?_
   have:=hpre e hee' hbind
   have hin:e.on<listed.size:=by omega
   rw[Array.getD_eq_getD_getElem?,Array.getElem?_eq_getElem hin]at this ⊢
   simpa using this
  have hil:listed.getD i false=false:=by rw[hsame listed i hsz hlt];exact h1
  have hlo:los.getD i 0≤doneK keys listed:=by
   rw[hlos]
   simp only[List.getD_eq_getElem?_getD,List.getElem?_map,List.getElem?_range hlt,Option.map_some,Option.getD_some]
   exact List.countP_mono_left fun k _ hk2=>ahead_listed hcl _ _ _ hk2 o hol hpre
  have hhi:doneK keys listed≤his.getD i 0:=by
   rw[hhis]
   simp only[List.getD_eq_getElem?_getD,List.getElem?_map,List.getElem?_range hlt,Option.map_some,Option.getD_some]
   refine List.countP_mono_left fun k hkm hk2=>?_
   simp only[Bool.and_eq_true,Bool.not_eq_true',beq_eq_false_iff_ne]
   refine⟨?_,fun e=>by rw[e,hil]at hk2;cases hk2⟩
   cases hah:aheadB l l.length i k with
   | false=>rfl
   | true =>
    exfalso
    have hkl:=hkeys k hkm
    have ho2:l[k]? = some l[k]:=List.getElem?_eq_getElem hkl
    have:=ahead_listed hcl _ _ _ hah _ ho2 (hcl k _ ho2 hk2)
    rw[hil]at this;cases this
  have hinc:incs.getD i 0=if keys.contains i then 1 else 0:=by
   rw[hincs]
   simp only[List.getD_eq_getElem?_getD,List.getElem?_map,List.getElem?_range hlt,Option.map_some,Option.getD_some]
  have hstep:=stepsK_at l los his incs 0 hs (by rw[hlos];simp) (by rw[hhis];simp) (by rw[hincs];simp) i o hol (by simpa using hol) (doneK keys listed) vs w hlo hhi hw hph hknow
  rw[Nat.zero_add]at hstep
  refine hstep _ fun a' w' ⟨v,ha',hv,hw',hph'⟩=>?_
  subst ha'
  have e:=putAll_upd v l 0 vs a0 i o hol hd
  rw[Nat.zero_add]at e
  rw[show l.toArray.toList=l from rfl,←e]
  refine ih (listed.setIfInBounds i true) (upd vs i v) w' (by simpa using hsz) ?_ (hRt _ _ _ hw hw') ?_ ?_ ?_
  ·have e2:((List.range l.length).filter fun j=>!(listed.setIfInBounds i true).getD j true)=((List.range l.length).filter fun j=>!listed.getD j true).filter fun j=>j != i:=by
    rw[List.filter_filter]
    refine List.filter_congr fun j hj=>?_
    by_cases hji:j=i
    ·subst hji
     have hin:j<listed.size:=by omega
     simp[Array.getD_eq_getD_getElem?,hin]
    ·rw[getD_set_ne _ (Ne.symm hji)];simp[hji]
   rw[e2]
   have hmem:i∈(List.range l.length).filter fun j=>!listed.getD j true:=by
    rw[List.mem_filter];exact⟨List.mem_range.2 hlt,by simp[h1]⟩
   have:=(List.length_filter_lt_length_iff_exists (p:=fun j=>j != i) (l:=(List.range l.length).filter fun j=>!listed.getD j true)).2 ⟨i,hmem,by simp⟩
   omega
  ·rw[hinc]at hph'
   by_cases hik:i∈keys
   ·rw[doneK_more (by omega) hil hnod hik]
    rw[if_pos (by simpa using hik)]at hph'
    exact hph'
   ·rw[doneK_same hik]
    rw[if_neg (by simpa using hik)]at hph'
    exact hph'
  ·intro j p hp hjl x hx hbx
   by_cases hji:j=i
   ·subst hji
    have:=hol.symm.trans hp;cases this
    exact getD_set_true (hpre x hx hbx)
   ·rw[getD_set_ne _ (Ne.symm hji)]at hjl
    exact getD_set_true (hcl j p hp hjl x hx hbx)
  ·intro j hj hlj
   by_cases hji:j=i
   ·subst hji;rw[upd_same];exact hv
   ·rw[upd_other _ _ hji]
    rw[getD_set_ne _ (Ne.symm hji)]at hlj
    exact hF _ _ _ _ (hk j hj hlj) hw'
theorem wp_region_keys {id:Nat} (keys los his incs:List Nat) (R:World→World→Prop) (Ph:Nat→World→Prop) (hRt:∀ a b c,R a b→R b c→R a c) (hRd:R w0 w0.drew) (hm:P.follows .mixedOrders=true) (hd:dstsApart l=true) (hb:edgesBack l 0=true) (hbd:boundsK l keys los his incs=true)
  (Fs:List (Value→World→Prop)) (hF:∀ i v w w',nthF Fs i v w→R w w'→nthF Fs i v w') (hph:Ph 0 w0.drew)
  (hs:StepsK R Ph P l.toArray Q (nthF Fs) a0 w0 l los his incs 0)
  (he:∀ vs w,R w0 w→Ph keys.length w→KnowsAll (nthF Fs) vs w 0 l.length→Q .normal (putAll l 0 vs a0) w):(Code.region id l.toArray true).wp P Q a0 w0:=by
 refine wp_region_any hm ?_
 have e:=putAll_old (oldAt l a0) a0 l 0 (fun i o d hi hdst=>by simp[oldAt,hi,hdst])
 have h:=any_factsK hbd hRt hF hd hb hs he l.length (Array.replicate l.length false) (oldAt l a0) { w0 with drawn:=w0.drawn+1 } (by simp) (Nat.le_trans (List.length_filter_le _ _) (by simp)) hRd
  (by
   have:doneK keys (Array.replicate l.length false)=0:=by
    unfold doneK
    rw[List.countP_eq_zero]
    intro k _
    simp[Array.getD_eq_getD_getElem?,Array.getElem?_replicate]
    split<;>simp
   rw[this];exact hph)
  (fun i o ho hl=>by
   have hi:i<l.length:=(List.getElem?_eq_some_iff.1 ho).1
   simp[Array.getD_eq_getD_getElem?,hi]at hl)
  (fun i hi hl=>by simp[Array.getD_eq_getD_getElem?,hi]at hl)
 rw[e]at h
 simpa using h
end
def AllFree:List (Value→World→Prop)→Prop
 | []=>True
 | f::r=>FixedF f∧AllFree r
theorem nthF_free:∀ (l:List (Value→World→Prop)),AllFree l→∀ i v w w',nthF l i v w→nthF l i v w'
 | [],_,_,_,_,_,h=>h
 | _::_,hl,0,v,w,w',h=>hl.1 v w w' h
 | _::r,hl,i+1,v,w,w',h=>nthF_free r hl.2 i v w w' h
theorem Any.fixed:FixedF Any:=fun _ _ _ h=>h
theorem wp_region_phases {P : Program} {Q : Exit→Act→World→Prop} {l : List Oper} {a0:Act} {w0:World} {id:Nat} (keys los his incs:List Nat) (Ph:Nat→World→Prop) (hm:P.follows .mixedOrders=true) (hd:dstsApart l=true) (hb:edgesBack l 0=true) (hbd:boundsK l keys los his incs=true)
  (Fs:List (Value→World→Prop)) (hF:AllFree Fs) (hph:Ph 0 w0.drew)
  (hs:StepsK (fun _ _=>True) Ph P l.toArray Q (nthF Fs) a0 w0 l los his incs 0)
  (he:∀ vs w,True→Ph keys.length w→KnowsAll (nthF Fs) vs w 0 l.length→Q .normal (putAll l 0 vs a0) w):(Code.region id l.toArray true).wp P Q a0 w0:=
 wp_region_keys keys los his incs (fun _ _=>True) Ph (fun _ _ _ _ _=>trivial) trivial hm hd hb hbd Fs (fun i v w w' h _=>nthF_free Fs hF i v w w' h) hph hs he
set_option maxRecDepth 100000 in
theorem ints_open {H : Type} {enc:TypeId × Value→H} {w : World} {base:Nat} {held:Bool} {v : Value} {d : DataW H} {p : List MemPlace} {r : Reach} {b0:Nat} (hv:Value.okWide Try.prog w r b0 25 v)
  (h:DataW.Trod enc Try.prog w base (fun _=>true) held 25 v d p):∃ l:List Int,Ints w v l∧∀ n∈l,(Lit.int .i64 n).wf=true:=by
 obtain⟨a,len,cap,rfl⟩:=okWide_slice Try.underlying25 hv
 obtain⟨fuel,hf⟩:=h
 exact nums_trod Try.underlying25 Try.underlying3 Try.cellsInt (by simpa [Value.cells]using hf)
end Go.Proofs.Ytkpbmbhejpmboaa
