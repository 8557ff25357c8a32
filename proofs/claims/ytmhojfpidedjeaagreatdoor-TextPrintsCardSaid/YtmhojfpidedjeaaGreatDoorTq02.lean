/- A region that draws its order, by what is known of each operation's value: whatever order is drawn, each operation runs when those it stands behind have run; what is known of their values is such that later memory does not turn it. One proof an operation serves all orders. The operations' names: wor -/
import Derived.Test.YtmhojfpidedjeaaGreatDoorTq00
import Derived.Test.YtmhojfpidedjeaaGreatDoorTq01
import Derived.RegionTactic
import Derived.Lib.ItoaLen
import Derived.Lib.FieldsP
import Derived.Lib.SplitLaws
namespace Go.Proofs.YtmhojfpidedjeaaGreatDoor
open Go.RowKit
def putAll:List Oper→Nat→(Nat→Value)→Act→Act
 | [],_,_,a=>a
 | o::r,k,vs,a=>putAll r (k+1) vs (a.put o.dst (vs k))
def dstsApart:List Oper→Bool
 | []=>true
 | o::r=>(r.all fun p=>match o.dst,p.dst with | some d,some e=>d != e | _,_=>true)&&dstsApart r
theorem apart_head {o : Oper} {r : List Oper} (h:dstsApart (o::r)=true):(∀ p∈r,∀ d,o.dst=some d→p.dst≠some d)∧dstsApart r=true:=by
 unfold dstsApart at h
 rw[Bool.and_eq_true,List.all_eq_true]at h
 refine⟨fun p hp d hd hc=>?_,h.2⟩
 have:=h.1 p hp
 rw[hd,hc]at this
 simp at this
theorem putAll_put (dst:Option Tmp) (v:Value):∀ (l:List Oper) (k:Nat) (vs:Nat→Value) (a:Act),(∀ p∈l,∀ d,dst=some d→p.dst≠some d)→(putAll l k vs a).put dst v=putAll l k vs (a.put dst v)
 | [],_,_,_,_=>rfl
 | o::r,k,vs,a,h=>by
  show (putAll r (k+1) vs (a.put o.dst (vs k))).put dst v=putAll r (k+1) vs ((a.put dst v).put o.dst (vs k))
  rw[putAll_put dst v r (k+1) vs _ (fun p hp=>h p (List.mem_cons_of_mem _ hp)),Act.put_comm a v (vs k) (h o List.mem_cons_self)]
theorem putAll_congr:∀ (l:List Oper) (k:Nat) (vs vs':Nat→Value) (a:Act),(∀ j,k≤j→vs j=vs' j)→putAll l k vs a=putAll l k vs' a
 | [],_,_,_,_,_=>rfl
 | o::r,k,vs,vs',a,h=>by
  show putAll r (k+1) vs _=putAll r (k+1) vs' _
  rw[h k (Nat.le_refl _)]
  exact putAll_congr r (k+1) vs vs' _ fun j hj=>h j (by omega)
theorem put_put (a:Act) (x:Option Tmp) (v u:Value):(a.put x v).put x u=a.put x u:=by
 cases x with
 | none=>rfl
 | some d=>simp[Act.put,Array.setIfInBounds_setIfInBounds]
def upd (vs:Nat→Value) (i:Nat) (v:Value):Nat→Value:=fun j=>if j=i then v else vs j
theorem upd_same (vs:Nat→Value) (i:Nat) (v:Value):upd vs i v i=v:=if_pos rfl
theorem upd_other (vs:Nat→Value) {i j:Nat} (v:Value) (h:j≠i):upd vs i v j=vs j:=if_neg h
theorem putAll_upd (v:Value):∀ (l:List Oper) (k:Nat) (vs:Nat→Value) (a:Act) (i:Nat) (o:Oper),l[i]? = some o→dstsApart l=true→putAll l k (upd vs (k+i) v) a=(putAll l k vs a).put o.dst v
 | [],_,_,_,_,_,h,_=>by cases h
 | p::r,k,vs,a,0,o,h,hd=>by
  obtain rfl:p=o:=by simpa using h
  show putAll r (k+1) (upd vs (k+0) v) (a.put p.dst (upd vs (k+0) v k))=(putAll r (k+1) vs (a.put p.dst (vs k))).put p.dst v
  rw[putAll_put p.dst v r (k+1) vs _ (apart_head hd).1,put_put]
  simp only[Nat.add_zero,upd_same]
  exact putAll_congr r (k+1) _ _ _ fun j hj=>upd_other _ _ (by omega)
 | p::r,k,vs,a,i+1,o,h,hd=>by
  have hr:r[i]? = some o:=by simpa using h
  show putAll r (k+1) (upd vs (k+(i+1)) v) (a.put p.dst (upd vs (k+(i+1)) v k))=(putAll r (k+1) vs (a.put p.dst (vs k))).put o.dst v
  rw[upd_other _ _ (by omega:k≠k+(i+1)),show k+(i+1)=k+1+i from by omega]
  exact putAll_upd v r (k+1) vs _ i o hr (apart_head hd).2
theorem put_old (a:Act) (d:Tmp):a.put (some d) (a.tmps.getD d undef)=a:=by
 have:a.tmps.setIfInBounds d (a.tmps.getD d undef)=a.tmps:=by
  apply Array.ext_getElem?
  intro j
  rw[Array.getElem?_setIfInBounds]
  by_cases h:d=j
  ·subst h
   by_cases hd:d<a.tmps.size
   ·simp[hd]
   ·simp[hd]
  ·simp[h]
 simp only[Act.put,this]
def oldAt (l:List Oper) (a:Act):Nat→Value:=fun i=>match (l[i]?).bind (·.dst) with | some d=>a.tmps.getD d undef | none=>undef
theorem putAll_old (old:Nat→Value) (a:Act):∀ (l:List Oper) (k:Nat),(∀ (i:Nat) (o:Oper) (d:Tmp),l[i]? = some o→o.dst=some d→old (k+i)=a.tmps.getD d undef)→putAll l k old a=a
 | [],_,_=>rfl
 | o::r,k,h=>by
  show putAll r (k+1) old (a.put o.dst (old k))=a
  have e:a.put o.dst (old k)=a:=by
   cases ho:o.dst with
   | none=>rfl
   | some d=>rw[show old k=a.tmps.getD d undef from h 0 o d rfl ho];exact put_old a d
  rw[e]
  exact putAll_old old a r (k+1) fun i p d hi hd=>by rw[show k+1+i=k+(i+1) from by omega];exact h (i+1) p d (by simpa using hi) hd
def edgesBack:List Oper→Nat→Bool
 | [],_=>true
 | o::r,k=>(o.after.all fun e=>!Region.binds .any e||decide (e.on<k))&&edgesBack r (k+1)
theorem edges_back:∀ (l:List Oper) (k:Nat),edgesBack l k=true→∀ (i:Nat) (o:Oper),l[i]? = some o→∀ e∈o.after,Region.binds .any e=true→e.on<k+i
 | [],_,_,_,_,h=>by cases h
 | p::r,k,hb,i,o,h=>by
  unfold edgesBack at hb
  rw[Bool.and_eq_true]at hb
  cases i with
  | zero =>
   obtain rfl:p=o:=by simpa using h
   intro e he hbd
   have:=(Array.all_eq_true_iff_forall_mem.1 hb.1) e he
   rw[hbd]at this
   simpa using this
  | succ i =>
   intro e he hbd
   have:=edges_back r (k+1) hb.2 i o (by simpa using h) e he hbd
   omega
def Knows (F:Nat→Value→World→Prop) (vs:Nat→Value) (w:World):List Edge→Prop
 | []=>True
 | e::r=>(match e.ground with | .textOnly _=>True | .gcOnly _=>True | _=>F e.on (vs e.on) w)∧Knows F vs w r
theorem knows_of (F:Nat→Value→World→Prop) (vs:Nat→Value) (w:World):∀ (l:List Edge),(∀ e∈l,Region.binds .any e=true→F e.on (vs e.on) w)→Knows F vs w l
 | [],_=>trivial
 | e::r,h=>by
  refine⟨?_,knows_of F vs w r fun x hx=>h x (List.mem_cons_of_mem _ hx)⟩
  have:=h e List.mem_cons_self
  unfold Region.binds at this
  revert this
  cases e.ground<;>intro this<;>first | trivial | exact this rfl
def KnowsAll (F:Nat→Value→World→Prop) (vs:Nat→Value) (w:World):Nat→Nat→Prop
 | _,0=>True
 | k,n+1=>F k (vs k) w∧KnowsAll F vs w (k+1) n
theorem knowsAll_of (F:Nat→Value→World→Prop) (vs:Nat→Value) (w:World):∀ (n k:Nat),(∀ i,k≤i→i<k+n→F i (vs i) w)→KnowsAll F vs w k n
 | 0,_,_=>trivial
 | n+1,k,h=>⟨h k (Nat.le_refl _) (by omega),knowsAll_of F vs w n (k+1) fun i h1 h2=>h i (by omega) (by omega)⟩
def Left (F:Nat→Value→World→Prop) (i:Nat) (dst:Option Tmp) (a:Act) (w:World) (a':Act) (w':World):Prop:=∃ v,a'=a.put dst v∧F i v w'∧Since w w'
def OneQ (Q:Exit→Act→World→Prop) (F:Nat→Value→World→Prop) (i:Nat) (dst:Option Tmp) (a:Act) (w:World):Exit→Act→World→Prop
 | .normal,a',w'=>Left F i dst a w a' w'
 | e,a',w'=>Q e a' w'
theorem Oper.wp_turn {P : Program} {o : Oper} {a : Act} {w : World} {K : Act→World→Prop} {Q Q':Exit→Act→World→Prop} (h1:∀ c a w,Q' (.panic c) a w→Q (.panic c) a w) (h2:LetsOut Q'→LetsOut Q)
  (hh:o.wp P a w K Q'):o.wp P a w K Q:=by
 unfold Oper.wp at *
 generalize (execOp a.eval o).run P w=r at *
 cases r with
 | ok n w' =>
  cases n<;>simp only[Oper.upon]at hh ⊢ <;>
   first
    | exact hh
    | exact Calls.mono hh (fun e w'' he=>by cases e<;>first | exact he | exact h1 _ _ _ he | exact h2 he)
 | halt x w'=>cases x<;>simp only[Oper.upon]at hh ⊢<;>first | exact hh | exact h1 _ _ _ hh
def Steps1 (P:Program) (all:Array Oper) (Q:Exit→Act→World→Prop) (F:Nat→Value→World→Prop) (a0:Act) (w0:World):List Oper→Nat→Prop
 | [],_=>True
 | o::r,k=>(∀ (vs:Nat→Value) (w:World),Since w0 w→Knows F vs w o.after.toList →
   wpList P all (OneQ Q F k o.dst (putAll all.toList 0 vs a0) w) [o] (putAll all.toList 0 vs a0) w)∧Steps1 P all Q F a0 w0 r (k+1)
theorem steps_at {P : Program} {all:Array Oper} {Q : Exit→Act→World→Prop} {F : Nat→Value→World→Prop} {a0:Act} {w0:World}:∀ (l:List Oper) (k:Nat),Steps1 P all Q F a0 w0 l k→∀ (i:Nat) (o:Oper),l[i]? = some o→all[k+i]? = some o →
  ∀ (vs:Nat→Value) (w:World),Since w0 w→Knows F vs w o.after.toList→∀ K:Act→World→Prop,(∀ a' w',Left F (k+i) o.dst (putAll all.toList 0 vs a0) w a' w'→K a' w') →
   wpOp P all Q (k+i) K (putAll all.toList 0 vs a0) w
 | [],_,_,_,_,h,_=>by cases h
 | p::r,k,h,0,o,ho,hall=>by
  obtain rfl:p=o:=by simpa using ho
  intro vs w hw hk K hK
  have:=h.1 vs w hw hk
  unfold wpOp
  rw[hall]
  simp only[wpList]at this
  show if _ then _ else _
  split
  ·rename_i hwant
   rw[if_pos hwant]at this
   rcases this with this|⟨h1,h2⟩
   ·exact .inl (Oper.wp_turn (fun _ _ _ h=>h) (fun h=>h) (Oper.wp_mono (fun a' w' h=>hK a' w' h) this))
   ·exact .inr ⟨h1,h2⟩
  ·rename_i hwant
   rw[if_neg hwant]at this
   exact hK _ _ this
 | p::r,k,h,i+1,o,ho,hall=>by
  have:=steps_at r (k+1) h.2 i o (by simpa using ho) (by rw[show k+1+i=k+(i+1) from by omega];exact hall)
  rw[show k+1+i=k+(i+1) from by omega]at this
  exact this
section
variable {P : Program} {Q : Exit→Act→World→Prop} {l : List Oper} {F : Nat→Value→World→Prop} {a0:Act} {w0:World}
theorem any_facts (hF:∀ i v w w',F i v w→Since w w'→F i v w') (hd:dstsApart l=true) (hb:edgesBack l 0=true)
  (hs:Steps1 P l.toArray Q F a0 w0 l 0)
  (he:∀ vs w,Since w0 w→KnowsAll F vs w 0 l.length→Q .normal (putAll l 0 vs a0) w) :
  ∀ (fuel:Nat) (listed:Array Bool) (vs:Nat→Value) (w:World),listed.size=l.length→((List.range l.length).filter fun i=>!listed.getD i true).length≤fuel→Since w0 w →
   (∀ i,i<l.length→listed.getD i true=true→F i (vs i) w)→wpAny P .any l.toArray Q fuel listed (putAll l 0 vs a0) w:=by
 have hend:∀ (listed:Array Bool) (vs:Nat→Value) (w:World),listed.size=l.length→Region.ready .any l.toArray listed=[]→Since w0 w →
   (∀ i,i<l.length→listed.getD i true=true→F i (vs i) w)→Q .normal (putAll l 0 vs a0) w:=by
  intro listed vs w hsz hr hw hk
  refine he vs w hw (knowsAll_of F vs w _ 0 fun i _ hi=>hk i (by omega) ?_)
  have all:∀ (n i:Nat),i<n→i<l.length→listed.getD i true=true:=by
   intro n
   induction n with
   | zero=>intro i h;omega
   | succ n ih =>
    intro i h1 h2
    cases hl:listed.getD i true with
    | true=>rfl
    | false =>
     exfalso
     have:i∈Region.ready .any l.toArray listed:=by
      rw[mem_ready]
      have ho:l[i]? = some l[i]:=List.getElem?_eq_getElem h2
      refine⟨hl,l[i],by simp,fun e hee hbd=>?_⟩
      have hlt:=edges_back l 0 hb i l[i] ho e hee hbd
      have:=ih e.on (by omega) (by omega)
      have hin:e.on<listed.size:=by omega
      rw[Array.getD_eq_getD_getElem?,Array.getElem?_eq_getElem hin]at this ⊢
      simpa using this
     rw[hr]at this
     cases this
  exact all (i+1) i (by omega) (by omega)
 intro fuel
 induction fuel with
 | zero =>
  intro listed vs w hsz hn hw hk
  have hr:Region.ready .any l.toArray listed=[]:=by
   rw[List.eq_nil_iff_forall_not_mem]
   intro i hi
   rw[mem_ready]at hi
   obtain⟨h1,o,ho,_⟩:=hi
   have hlt:i<l.length:=by simpa using (Array.getElem?_eq_some_iff.1 ho).1
   have:i∈(List.range l.length).filter fun i=>!listed.getD i true:=by
    rw[List.mem_filter];exact⟨List.mem_range.2 hlt,by simp[h1]⟩
   have:=List.length_pos_of_mem this
   omega
  exact⟨hr,hend listed vs w hsz hr hw hk⟩
 | succ fuel ih =>
  intro listed vs w hsz hn hw hk
  refine⟨fun hr=>hend listed vs w hsz hr hw hk,fun i hi=>?_⟩
  rw[mem_ready]at hi
  obtain⟨h1,o,ho,hpre⟩:=hi
  have hol:l[i]? = some o:=by simpa using ho
  have hlt:i<l.length:=(List.getElem?_eq_some_iff.1 hol).1
  have hknow:Knows F vs w o.after.toList:=by
   refine knows_of F vs w _ fun e hee hbind=>?_
   have hee':e∈o.after:=by simpa using hee
   have hlt2:=edges_back l 0 hb i o hol e hee' hbind
   have hon:e.on<l.length:=by omega
   refine hk e.on hon ?_
   have:=hpre e hee' hbind
   have hin:e.on<listed.size:=by omega
   rw[Array.getD_eq_getD_getElem?,Array.getElem?_eq_getElem hin]at this ⊢
   simpa using this
  have hstep:=steps_at l 0 hs i o hol (by simpa using hol) vs w hw hknow
  rw[Nat.zero_add]at hstep
  refine hstep _ fun a' w' ⟨v,ha',hv,hw'⟩=>?_
  subst ha'
  have e:=putAll_upd v l 0 vs a0 i o hol hd
  rw[Nat.zero_add]at e
  rw[show l.toArray.toList=l from rfl,←e]
  refine ih (listed.setIfInBounds i true) (upd vs i v) w' (by simpa using hsz) ?_ (hw.trans hw') ?_
  ·have e2:((List.range l.length).filter fun j=>!(listed.setIfInBounds i true).getD j true)=((List.range l.length).filter fun j=>!listed.getD j true).filter fun j=>j != i:=by
    rw[List.filter_filter]
    refine List.filter_congr fun j hj=>?_
    by_cases hji:j=i
    ·subst hji
     have hin:j<listed.size:=by omega
     simp[Array.getD_eq_getD_getElem?,hin]
    ·rw[getD_set_ne _ (Ne.symm hji)];simp[hji]
   rw[e2]
   have hmem:i∈(List.range l.length).filter fun j=>!listed.getD j true:=by
    rw[List.mem_filter];exact⟨List.mem_range.2 hlt,by simp[h1]⟩
   have:=(List.length_filter_lt_length_iff_exists (p:=fun j=>j != i) (l:=(List.range l.length).filter fun j=>!listed.getD j true)).2 ⟨i,hmem,by simp⟩
   omega
  ·intro j hj hlj
   by_cases hji:j=i
   ·subst hji;rw[upd_same];exact hv
   ·rw[upd_other _ _ hji]
    rw[getD_set_ne _ (Ne.symm hji)]at hlj
    exact hF _ _ _ _ (hk j hj hlj) hw'
theorem wp_region_facts {id:Nat} (hm:P.follows .mixedOrders=true) (hd:dstsApart l=true) (hb:edgesBack l 0=true) (F:Nat→Value→World→Prop) (hF:∀ i v w w',F i v w→Since w w'→F i v w')
  (hs:Steps1 P l.toArray Q F a0 w0 l 0)
  (he:∀ vs w,Since w0 w→KnowsAll F vs w 0 l.length→Q .normal (putAll l 0 vs a0) w):(Code.region id l.toArray true).wp P Q a0 w0:=by
 refine wp_region_any hm ?_
 have e:=putAll_old (oldAt l a0) a0 l 0 (fun i o d hi hdst=>by simp[oldAt,hi,hdst])
 have h:=any_facts hF hd hb hs he l.length (Array.replicate l.length false) (oldAt l a0) { w0 with drawn:=w0.drawn+1 } (by simp) (Nat.le_trans (List.length_filter_le _ _) (by simp)) (Since.refl w0).drew
  (fun i hi hl=>by simp[Array.getD_eq_getD_getElem?,hi]at hl)
 rw[e]at h
 simpa using h
end
def nthF:List (Value→World→Prop)→Nat→Value→World→Prop
 | [],_=>fun _ _=>True
 | f::_,0=>f
 | _::r,i+1=>nthF r i
def Stable (f:Value→World→Prop):Prop:=∀ v w w',f v w→Since w w'→f v w'
def AllStable:List (Value→World→Prop)→Prop
 | []=>True
 | f::r=>Stable f∧AllStable r
theorem nthF_stable:∀ (l:List (Value→World→Prop)),AllStable l→∀ i v w w',nthF l i v w→Since w w'→nthF l i v w'
 | [],_,_,_,_,_,_,_=>trivial
 | _::_,h,0,v,w,w',hv,hs=>h.1 v w w' hv hs
 | _::r,h,i+1,v,w,w',hv,hs=>nthF_stable r h.2 i v w w' hv hs
def Is (x:Value) (v:Value) (_:World):Prop:=v=x
def Any (_:Value) (_:World):Prop:=True
def IsNums (k:IntKind) (l:List Int) (v:Value) (w:World):Prop:=Nums k w v l
theorem Is.stable (x:Value):Stable (Is x):=fun _ _ _ h _=>h
theorem Any.stable:Stable Any:=fun _ _ _ h _=>h
theorem IsNums.stable (k:IntKind) (l:List Int):Stable (IsNums k l):=fun _ _ _ h hs=>Nums.keep h hs
theorem wp_region_list_facts {P : Program} {Q : Exit→Act→World→Prop} {l : List Oper} {a0:Act} {w0:World} {id:Nat} (hm:P.follows .mixedOrders=true) (hd:dstsApart l=true) (hb:edgesBack l 0=true) (Fs:List (Value→World→Prop)) (hF:AllStable Fs)
  (hs:Steps1 P l.toArray Q (nthF Fs) a0 w0 l 0)
  (he:∀ vs w,Since w0 w→KnowsAll (nthF Fs) vs w 0 l.length→Q .normal (putAll l 0 vs a0) w):(Code.region id l.toArray true).wp P Q a0 w0:=
 wp_region_facts hm hd hb (nthF Fs) (nthF_stable Fs hF) hs he
set_option linter.unusedVariables false
def opNames:List ByteArray:=[⟨#[99,111,110,115,116]⟩,⟨#[97,100,100]⟩,⟨#[115,117,98]⟩,⟨#[109,117,108]⟩,⟨#[97,110,100]⟩,⟨#[111,114]⟩,⟨#[120,111,114]⟩,⟨#[115,104,108]⟩,⟨#[115,104,114]⟩,⟨#[115,97,114]⟩,⟨#[101,113]⟩,⟨#[108,116]⟩,⟨#[108,116,117]⟩,⟨#[100,105,118]⟩,⟨#[108,111,97,100]⟩,⟨#[115,116,111,114,101]⟩,⟨#[99,97,108,108]⟩,⟨#[109,117,108,119]⟩]
def namesText:ByteArray:=⟨#[99,111,110,115,116,32,97,100,100,32,115,117,98,32,109,117,108,32,97,110,100,32,111,114,32,120,111,114,32,115,104,108,32,115,104,114,32,115,97,114,32,101,113,32,108,116,32,108,116,117,32,100,105,118,32,108,111,97,100,32,115,116,111,114,101,32,99,97,108,108,32,109,117,108,119]⟩
theorem fields_names0:Lib.fields namesText.data.toList=opNames.map fun s=>s.data.toList:=by decide +kernel
theorem fields_names:((Lib.fields namesText.data.toList).map fun l=>Value.string ⟨l.toArray⟩)=opNames.map Value.string:=by
 rw[fields_names0,List.map_map]
 refine List.map_congr_left fun s _=>?_
 obtain⟨⟨l⟩⟩:=s
 rfl
theorem names_ascii:∀ (j:Nat) b,namesText.data.toList[j]? = some b→b.toNat<128:=by
 have h:namesText.data.toList.all (fun b=>decide (b.toNat<128))=true:=by decide +kernel
 intro j b hb
 have:=List.all_eq_true.1 h b (List.mem_of_getElem? hb)
 simpa using this
def nameF (op:Int):ByteArray:=if op<1∨18<op then ByteArray.empty else opNames.getD (op-1).toNat ByteArray.empty
def numberF (s:ByteArray):Int:=1+Lib.idxOfS opNames s
def NamesAt (w:World) (b:Nat):Prop:=b<w.heap.size∧∀ j,j<18→w.cell? ⟨b,0+j,none⟩=some (.string (opNames.getD j ByteArray.empty))
theorem names_block (w:World) (T:TypeId):NamesAt (w.alloc (.cells (opNames.map Value.string).toArray T)) w.heap.size:=by
 refine⟨by simp,fun j hj=>?_⟩
 have h:(opNames.map Value.string)[j]? = some (.string (opNames.getD j ByteArray.empty)):=by
  have hl:j<opNames.length:=hj
  rw[List.getElem?_map,List.getElem?_eq_getElem hl,List.getD_eq_getElem?_getD,List.getElem?_eq_getElem hl]
  rfl
 simp only[World.cell?,heap_last,Nat.zero_add]
 simpa using h
def NamesQ (w:World) (e:Ending) (w':World):Prop:=e=.returned (.slice (some ⟨w.heap.size,0,none⟩) 18 18)∧NamesAt w' w.heap.size∧Below w.heap.size w w'
theorem fields_any (w : World) (htab : Lib.TabIs Tryz.prog w "strings.asciiSpace" .u8 Lib.asciiSpaceTab) : Calls Tryz.prog 48 #[.string namesText] w (NamesQ w) := by
 refine (Tryz.strings_Fields namesText w (by decide +kernel) names_ascii htab).mono ?_
 rintro e w' ⟨rfl,rfl⟩
 have hl:(Lib.fields namesText.data.toList).length=18:=by decide +kernel
 rw[hl,fields_names]
 exact⟨rfl,names_block w _,(Below.refl _ _).alloc (Nat.le_refl _) _⟩
theorem rnames_any (w:World):Calls Tryz.prog 86 #[] w (NamesQ w):=by
 go_enter Tryz.func86,Tryz.ntmps86
 go_wp2
 go_ret
 exact⟨rfl,names_block w _,(Below.refl _ _).alloc (Nat.le_refl _) _⟩
def StrQ (s:ByteArray) (w:World) (e:Ending) (w':World):Prop:=e=.returned (.string s)∧Below w.heap.size w w'
set_option maxHeartbeats 1000000 in
set_option maxRecDepth 100000 in
theorem name_any (op : Int) (w : World) (ho : -9223372036854775808 ≤ op ∧ op ≤ 9223372036854775807) (htab : Lib.TabIs Tryz.prog w "strings.asciiSpace" .u8 Lib.asciiSpaceTab) :
  Calls Tryz.prog 47 #[.int .i64 op] w (StrQ (nameF op) w):=by
 have hf:=fields_any w htab
 obtain⟨y,hy⟩:∃ y,nameF op=y:=⟨_,rfl⟩
 have HF:=Lib.hid hf
 have HY:=Lib.hid hy
 rw[hy]
 clear hf hy htab
 by_cases h1:op<1
 ·obtain rfl:ByteArray.empty=y:=by rw[←HY.out];unfold nameF;rw[if_pos (.inl h1)]
  go_enter Tryz.func47,Tryz.ntmps47
  go_wp2_with fail
  refine HF.out.mono ?_
  rintro e w1 ⟨rfl,hn,hb⟩
  have HB:=Lib.hid hb
  clear hn hb
  go_wp2
  go_ret
  exact⟨rfl,HB.out⟩
 ·by_cases h2:18<op
  ·obtain rfl:ByteArray.empty=y:=by rw[←HY.out];unfold nameF;rw[if_pos (.inr h2)]
   go_enter Tryz.func47,Tryz.ntmps47
   go_wp2_with fail
   refine HF.out.mono ?_
   rintro e w1 ⟨rfl,hn,hb⟩
   have HB:=Lib.hid hb
   clear hn hb
   go_wp2
   go_ret
   exact⟨rfl,HB.out⟩
  ·obtain⟨k,rfl⟩:∃ k:Nat,op=(k:Int)+1:=⟨(op-1).toNat,by omega⟩
   have hk:k<18:=by omega
   have he:nameF ((k:Int)+1)=opNames.getD k ByteArray.empty:=by unfold nameF;rw[if_neg (by omega),show ((k:Int)+1-1).toNat=k from by omega]
   rw[he]at HY
   clear he
   go_enter Tryz.func47,Tryz.ntmps47
   go_wp2_with fail
   refine HF.out.mono ?_
   rintro e w1 ⟨rfl,hn,hb⟩
   have hc:w1.cell? ⟨w.heap.size,0+k,none⟩=some (.string y):=by rw[←HY.out];exact hn.2 k hk
   rw[Nat.zero_add]at hc
   have hl:=hn.1
   have HB:=Lib.hid hb
   clear hn hb
   go_wp2
   go_ret
   exact⟨rfl,HB.out⟩
set_option maxHeartbeats 1000000 in
set_option maxRecDepth 100000 in
theorem rname_any (op:Int) (w:World) (ho : -9223372036854775808≤op∧op≤9223372036854775807) :
  Calls Tryz.prog 49 #[.int .i64 op] w (StrQ (nameF op) w):=by
 have hf:=rnames_any w
 obtain⟨y,hy⟩:∃ y,nameF op=y:=⟨_,rfl⟩
 have HF:=Lib.hid hf
 have HY:=Lib.hid hy
 rw[hy]
 clear hf hy
 by_cases h1:op<1
 ·obtain rfl:ByteArray.empty=y:=by rw[←HY.out];unfold nameF;rw[if_pos (.inl h1)]
  go_enter Tryz.func49,Tryz.ntmps49
  go_wp2_with fail
  refine HF.out.mono ?_
  rintro e w1 ⟨rfl,hn,hb⟩
  have HB:=Lib.hid hb
  clear hn hb
  go_wp2
  go_ret
  exact⟨rfl,HB.out⟩
 ·by_cases h2:18<op
  ·obtain rfl:ByteArray.empty=y:=by rw[←HY.out];unfold nameF;rw[if_pos (.inr h2)]
   go_enter Tryz.func49,Tryz.ntmps49
   go_wp2_with fail
   refine HF.out.mono ?_
   rintro e w1 ⟨rfl,hn,hb⟩
   have HB:=Lib.hid hb
   clear hn hb
   go_wp2
   go_ret
   exact⟨rfl,HB.out⟩
  ·obtain⟨k,rfl⟩:∃ k:Nat,op=(k:Int)+1:=⟨(op-1).toNat,by omega⟩
   have hk:k<18:=by omega
   have he:nameF ((k:Int)+1)=opNames.getD k ByteArray.empty:=by unfold nameF;rw[if_neg (by omega),show ((k:Int)+1-1).toNat=k from by omega]
   rw[he]at HY
   clear he
   go_enter Tryz.func49,Tryz.ntmps49
   go_wp2_with fail
   refine HF.out.mono ?_
   rintro e w1 ⟨rfl,hn,hb⟩
   have hc:w1.cell? ⟨w.heap.size,0+k,none⟩=some (.string y):=by rw[←HY.out];exact hn.2 k hk
   rw[Nat.zero_add]at hc
   have hl:=hn.1
   have HB:=Lib.hid hb
   clear hn hb
   go_wp2
   go_ret
   exact⟨rfl,HB.out⟩
def IntQ (x:Int) (w:World) (e:Ending) (w':World):Prop:=e=.returned (.int .i64 x)∧Below w.heap.size w w'
theorem idx_bounds (s:ByteArray) : -1≤Lib.idxOfS opNames s∧Lib.idxOfS opNames s<18:=by
 by_cases h:∃ k,k<opNames.length∧opNames.getD k ByteArray.empty=s∧∀ j,j<k→opNames.getD j ByteArray.empty≠s
 ·obtain⟨k,h1,h2,h3⟩:=h
  have hk:k<18:=h1
  have:=Lib.idxFromS_hit s opNames k 0 h1 h2 h3
  unfold Lib.idxOfS
  rw[this];omega
 ·have hno:∀ j,j<opNames.length→opNames.getD j ByteArray.empty≠s:=by
   intro j
   induction j using Nat.strongRecOn with
   | ind j ih=>intro hj e;exact h ⟨j,hj,e,fun i hi=>ih i hi (by omega)⟩
  have:=Lib.idxFromS_miss s opNames 0 hno
  unfold Lib.idxOfS
  rw[this];omega
set_option maxHeartbeats 1000000 in
set_option maxRecDepth 100000 in
theorem number_any (s : ByteArray) (w : World) (htab : Lib.TabIs Tryz.prog w "strings.asciiSpace" .u8 Lib.asciiSpaceTab) :
  Calls Tryz.prog 75 #[.string s] w (IntQ (numberF s) w):=by
 have HF:=Lib.hid (fields_any w htab)
 have hb:=idx_bounds s
 obtain⟨y,hy⟩:∃ y,Lib.idxOfS opNames s=y:=⟨_,rfl⟩
 unfold numberF
 rw[hy]at hb ⊢
 have HY:=Lib.hid hy
 clear hy htab
 go_enter Tryz.func75,Tryz.ntmps75
 go_wp2_with fail
 refine HF.out.mono ?_
 rintro e w1 ⟨rfl,hn,hb1⟩
 have HI:=Lib.hid (Tryz.slices_Index_string w.heap.size 0 18 18 opNames s w1 (by decide) (by decide) (fun j hj=>hn.2 j hj))
 rw[show opNames.take 18=opNames from rfl,HY.out]at HI
 have HB:=Lib.hid hb1
 clear hn hb1
 go_wp2_with fail
 refine HI.out.mono ?_
 rintro e w2 ⟨rfl,rfl⟩
 go_wp2
 go_ret
 exact⟨rfl,HB.out⟩
def digB (d:Nat):ByteArray:=⟨#[UInt8.ofNat (48+d)]⟩
def decB (u:Nat):ByteArray:=⟨(Lib.decDigits u).toArray⟩
theorem bytes_ext {a b:ByteArray} (h:a.data.toList=b.data.toList):a=b:=ByteArray.ext (Array.toList_inj.mp h)
theorem bytes_app (a b:ByteArray):(a++b).data.toList=a.data.toList++b.data.toList:=by
 rw[ByteArray.data_append,Array.toList_append]
def Behind (U u:Nat) (out:ByteArray):Prop:=if u=0 then out=decB U else Lib.decDigits u++out.data.toList=Lib.decDigits U
theorem behind_first (U:Nat):Behind U (U / 10) (digB (U % 10)):=by
 unfold Behind
 by_cases h:U<10
 ·rw[if_pos (by omega)]
  unfold decB digB
  rw[decDigits_small h,Nat.mod_eq_of_lt h]
 ·rw[if_neg (by omega),decDigits_big h];rfl
theorem behind_next {U u:Nat} {out:ByteArray} (h:Behind U u out) (hu:u≠0):Behind U (u / 10) (digB (u % 10)++out):=by
 unfold Behind at h ⊢
 rw[if_neg hu]at h
 by_cases h1:u<10
 ·rw[if_pos (by omega)]
  apply bytes_ext
  rw[bytes_app]
  rw[decDigits_small h1]at h
  unfold decB digB
  rw[Nat.mod_eq_of_lt h1]
  exact h
 ·rw[if_neg (by omega),bytes_app]
  rw[decDigits_big h1]at h
  rw[←List.append_assoc]
  exact h
abbrev Bs:=List UInt8
structure DIns where
 op:Int
 dst:Int
 two:Int
 args:List Int
 imm:Int
structure DPhi where
 dst:Int
 ins:List (Int × Int)
structure DTerm where
 kd:Int
 ar:List Int
 tg:List Int
 im:Int
structure DBlk where
 phis:List DPhi
 ins:List DIns
 term:DTerm
structure DFn where
 params:Int
 blocks:List DBlk
def dS (n:Int):Bs:=32::Lib.itoa n
def allS (l:List Int):Bs:=l.flatMap dS
def opS (op:Int):Bs:=(nameF op).data.toList
def insS (x:DIns):Bs:=
 if x.op=1 then opS x.op++(dS x.dst++dS x.imm)
 else if 2≤x.op∧x.op≤14 then opS x.op++(dS x.dst++allS x.args)
 else if x.op=15 then opS x.op++(dS x.dst++(allS x.args++dS x.imm))
 else if x.op=16 then opS x.op++(allS x.args++dS x.imm)
 else if x.op=17 then opS x.op++(dS x.dst++(dS x.imm++allS x.args))
 else if x.op=18 then opS x.op++(dS x.dst++(dS x.two++allS x.args))
 else [63]
def termNames:List ByteArray:=[⟨#[106,117,109,112]⟩,⟨#[98,114,97,110,99,104]⟩,⟨#[115,119,105,116,99,104]⟩,⟨#[114,101,116]⟩,⟨#[116,114,97,112]⟩]
def termB (k:Int):ByteArray:=if k<1∨5<k then ⟨#[63]⟩ else termNames.getD (k-1).toNat ByteArray.empty
def termS (t:DTerm):Bs:=
 if t.kd<1∨5<t.kd then [63]
 else if t.kd=5 then (termB t.kd).data.toList++dS t.im
 else (termB t.kd).data.toList++(allS t.ar++allS t.tg)
def pairS (x:Int × Int):Bs:=dS x.1++58::Lib.itoa x.2
def phiS (p:DPhi):Bs:=[112,104,105]++(dS p.dst++p.ins.flatMap pairS)
def bodyS (x:DBlk):Bs:=x.phis.flatMap (fun p=>phiS p++[10])++(x.ins.flatMap (fun i=>insS i++[10])++(termS x.term++[10]))
def blkS (b:Nat) (x:DBlk):Bs:=[98,108,111,99,107]++(dS b++10::bodyS x)
def blkAt (l:List DBlk) (b:Nat):Bs:=match l[b]? with | some x=>blkS b x | none=>[]
def blksS (l:List DBlk) (n:Nat):Bs:=(List.range n).flatMap (blkAt l)
def funcS (f:DFn):Bs:=[102,117,110,99]++(dS f.params++10::blksS f.blocks f.blocks.length)
def spl (c:UInt8):Bs→List Bs
 | []=>[[]]
 | x::r=>if x=c then []::spl c r else match spl c r with | []=>[[x]] | h::t=>(x::h)::t
def ahead (c:UInt8) (l:Bs):Bs:=l.takeWhile (fun x=>x != c)
def isSep (x:UInt8):Bool:=x==32||x==9
def fldGo:Bs→Bs→List Bs
 | cur,[]=>if cur=[] then [] else [cur]
 | cur,x::r=>if isSep x then (if cur=[] then fldGo [] r else cur::fldGo [] r) else fldGo (cur++[x]) r
def wordsOf (l:Bs):List ByteArray:=(fldGo [] (ahead 35 l)).map fun x=>⟨x.toArray⟩
def linesOf (s:Bs):List (List ByteArray):=(spl 10 s).map wordsOf
def numW (w:ByteArray):Int:=(wparse w.data.toList).getD 0
def isNum (w:ByteArray):Bool:=(wparse w.data.toList).isSome
def numsW (l:List ByteArray):List Int:=l.map numW
def areNums (l:List ByteArray):Bool:=l.all isNum
def kindF (w:ByteArray):Int:=1+Lib.idxOfS termNames w
def wFunc:ByteArray:=⟨#[102,117,110,99]⟩
def wBlock:ByteArray:=⟨#[98,108,111,99,107]⟩
def wPhi:ByteArray:=⟨#[112,104,105]⟩
structure PSt where
 params:Int
 blocks:List DBlk
 pl:Int
def onLast (s:PSt) (g:DBlk→DBlk):List DBlk:=s.blocks.modify (s.blocks.length-1) g
def colons (w:ByteArray):Nat:=w.data.toList.count 58
def front (w:ByteArray):ByteArray:=⟨(ahead 58 w.data.toList).toArray⟩
def behind (w:ByteArray):ByteArray:=⟨(w.data.toList.drop ((ahead 58 w.data.toList).length+1)).toArray⟩
def pairW (w:ByteArray):Int × Int:=(numW (front w),numW (behind w))
def isPair (w:ByteArray):Bool:=isNum (front w)&&isNum (behind w)
def phiSt (s:PSt) (l:List ByteArray):Except Int PSt:=
 match l with
 | []=>.error 70
 | d::r =>
  if r.all (fun w=>colons w==1) then
   (if isNum d&&r.all isPair then .ok ⟨s.params,onLast s (fun b=>⟨b.phis++[⟨numW d,r.map pairW⟩],b.ins,b.term⟩),s.pl⟩ else .error 71)
  else .error 70
def least (op:Int):Nat:=if op=1 then 2 else if op=17 then 2 else if op=18 then 4 else 3
def most (op:Int):Nat:=if op=1 then 2 else if op=17 then 6 else if op=18 then 4 else 3
def insOf (op:Int) (n:List Int):DIns:=
 if op=1 then ⟨op,n.getD 0 0,0,[],n.getD 1 0⟩
 else if op=15 then ⟨op,n.getD 0 0,0,(n.drop 1).take 1,n.getD 2 0⟩
 else if op=16 then ⟨op,0,0,n.take 2,n.getD 2 0⟩
 else if op=17 then ⟨op,n.getD 0 0,0,n.drop 2,n.getD 1 0⟩
 else if op=18 then ⟨op,n.getD 0 0,n.getD 1 0,n.drop 2,0⟩
 else ⟨op,n.getD 0 0,0,n.drop 1,0⟩
def insSt (s:PSt) (op:Int) (l:List ByteArray):Except Int PSt:=
 if least op≤l.length∧l.length≤most op then
  (if areNums l then .ok ⟨s.params,onLast s (fun b=>⟨b.phis,b.ins++[insOf op (numsW l)],b.term⟩),3⟩ else .error 71)
 else .error 70
def tleast (k:Int):Nat:=if k=1 then 1 else if k=2 then 3 else if k=3 then 2 else if k=4 then 0 else 1
def tmost (k:Int) (n:Nat):Nat:=if k=1 then 1 else if k=2 then 3 else if k=3 then n else 1
def termOf (k:Int) (n:List Int):DTerm:=
 if k=1 then ⟨k,[],n,0⟩ else if k=4 then ⟨k,n,[],0⟩ else if k=5 then ⟨k,[],[],n.getD 0 0⟩ else ⟨k,n.take 1,n.drop 1,0⟩
def termSt (s:PSt) (k:Int) (l:List ByteArray):Except Int PSt:=
 if tleast k≤l.length∧l.length≤tmost k l.length then
  (if areNums l then .ok ⟨s.params,onLast s (fun b=>⟨b.phis,b.ins,termOf k (numsW l)⟩),1⟩ else .error 71)
 else .error 70
def zeroBlk:DBlk:=⟨[],[],⟨0,[],[],0⟩⟩
def stepSt (s:PSt) (l:List ByteArray):Except Int PSt:=
 match l with
 | []=>.ok s
 | w::r =>
  if w=wFunc then
   (if s.pl=0∧r.length=1 then (if areNums r then .ok ⟨(numsW r).getD 0 0,s.blocks,1⟩ else .error 71) else .error 70)
  else if w=wBlock then
   (if s.pl=1∧r.length=1 then (if areNums r then (if (numsW r).getD 0 0=s.blocks.length then .ok ⟨s.params,s.blocks++[zeroBlk],2⟩ else .error 70) else .error 71) else .error 70)
  else if w=wPhi then (if s.pl=2 then phiSt s r else .error 70)
  else if 0<numberF w then (if 2≤s.pl then insSt s (numberF w) r else .error 70)
  else if 0<kindF w then (if 2≤s.pl then termSt s (kindF w) r else .error 70)
  else .error 72
def goSt {σ:Type} (step:σ→List ByteArray→Except Int σ):Nat→σ→List (List ByteArray)→Except (Int × Int) σ
 | _,s,[]=>.ok s
 | i,s,l::r=>if l=[] then goSt step (i+1) s r else match step s l with
  | .error e=>.error (i+1,e)
  | .ok t=>goSt step (i+1) t r
structure PRes where
 f:DFn
 line:Int
 e:Int
def parseS (s:Bs):PRes:=
 match goSt stepSt 0 ⟨0,[],0⟩ (linesOf s) with
 | .error x=>⟨⟨0,[]⟩,x.1,x.2⟩
 | .ok t=>if t.pl=1∧t.blocks≠[] then ⟨⟨t.params,t.blocks⟩,0,0⟩ else ⟨⟨0,[]⟩,((linesOf s).length:Int),70⟩
example:(parseS [102,117,110,99,32,50,10,98,108,111,99,107,32,48,10,97,100,100,32,50,32,48,32,49,10,114,101,116,32,50,10]).e=0:=by decide +kernel
open Go.Lib
theorem dec_low (n b0 b1 b2 b3:Nat) (h:b0<128):decodeN n b0 b1 b2 b3=(b0,1):=by unfold decodeN;rw[if_pos h]
theorem dec_high (n b0 b1 b2 b3:Nat) (h:¬ b0<128):128≤(decodeN n b0 b1 b2 b3).1∧(decodeN n b0 b1 b2 b3).2≤4∧(1<(decodeN n b0 b1 b2 b3).2→128≤b1)∧(2<(decodeN n b0 b1 b2 b3).2→128≤b2)∧(3<(decodeN n b0 b1 b2 b3).2→128≤b3):=by
 unfold decodeN
 rw[if_neg h]
 repeat' split
 all_goals (simp only;omega)
def isSepR (r:Nat):Bool:=r==32||r==9
theorem sep_low (b:UInt8):isSepR b.toNat=isSep b:=by
 unfold isSepR isSep
 congr 1
 ·rw[Bool.eq_iff_iff];simp[←UInt8.toNat_inj]
 ·rw[Bool.eq_iff_iff];simp[←UInt8.toNat_inj]
theorem sep_high (b:UInt8) (h:128≤b.toNat):isSep b=false:=by
 rw[←sep_low];unfold isSepR;simp;omega
theorem fldGo_run:∀ (a cur r:Bs),(∀ x∈a,isSep x=false)→fldGo cur (a++r)=fldGo (cur++a) r
 | [],cur,r,_=>by simp
 | x::a,cur,r,h=>by
  rw[List.cons_append,fldGo,if_neg (by rw[h x List.mem_cons_self];simp),fldGo_run a _ _ fun y hy=>h y (List.mem_cons_of_mem _ hy)]
  simp
theorem drop_at (l:Bs) (p:Nat) (h:p<l.length):l.drop p=l.getD p 0::l.drop (p+1):=by
 rw[List.drop_eq_getElem_cons h];simp[List.getD,h]
theorem rune_step (s:ByteArray) (pos:Nat) (h:pos<s.size):(isSepR (Utf8.decode s pos).1=true∧isSep (s.data.toList.getD pos 0)=true∧(Utf8.decode s pos).2=1) ∨
  (isSepR (Utf8.decode s pos).1=false∧∀ x∈(s.data.toList.drop pos).take (Utf8.decode s pos).2,isSep x=false):=by
 have hs:s.data.toList.length=s.size:=(size_eq s).symm
 generalize hL:s.data.toList=L at *
 by_cases hb:(L.getD pos 0).toNat<128
 ·have hd:Utf8.decode s pos=((L.getD pos 0).toNat,1):=by rw[decode_N,hL,dec_low _ _ _ _ _ hb]
  rw[hd,sep_low]
  cases hq:isSep (L.getD pos 0)
  ·refine .inr ⟨rfl,fun x hx=>?_⟩
   rw[drop_at L pos (by omega)]at hx
   simp at hx
   rw[hx];simpa using hq
  ·exact .inl ⟨rfl,rfl,rfl⟩
 ·have hd:=decode_N s pos
  rw[hL]at hd
  obtain⟨h1,h2,h3,h4,h5⟩:=dec_high (L.length-pos) (L.getD pos 0).toNat (L.getD (pos+1) 0).toNat (L.getD (pos+2) 0).toNat (L.getD (pos+3) 0).toNat hb
  rw[←hd]at h1 h2 h3 h4 h5
  refine .inr ⟨by unfold isSepR;simp;omega,fun x hx=>sep_high x ?_⟩
  obtain⟨j,hj,rfl⟩:=List.getElem_of_mem hx
  rw[List.getElem_take,List.getElem_drop]
  have hj2:j<(Utf8.decode s pos).2:=by rw[List.length_take]at hj;omega
  have hj3:pos+j<L.length:=by rw[List.length_take,List.length_drop]at hj;omega
  have e:L[pos+j]=L.getD (pos+j) 0:=by simp[List.getD,hj3]
  rw[e]
  rcases (show j=0∨j=1∨j=2∨j=3 by omega) with rfl|rfl|rfl|rfl
  ·rw[Nat.add_zero];omega
  ·exact h3 (by omega)
  ·exact h4 (by omega)
  ·exact h5 (by omega)
theorem fldGo_nil (cur:Bs):fldGo cur []=if cur=[] then [] else [cur]:=by rw[fldGo]
theorem spans_fld (s:ByteArray):∀ (f pos:Nat) (st:Option Nat) (acc:List (Nat × Nat)),s.size≤pos+f→pos≤s.size→(∀ a,st=some a→a<pos) →
  acc.map (fun p=>pieceU s.data.toList p.1 p.2)++fldGo (openPiece s.data.toList st pos) (s.data.toList.drop pos)=(closeSpans s (spansFromP isSepR s f pos st acc)).map (fun p=>pieceU s.data.toList p.1 p.2)
 | f,pos,st,acc,h,hp,hst=>by
  by_cases hlt:pos<s.size
  ·obtain⟨f,rfl⟩:∃ g,f=g+1:=⟨f-1,by omega⟩
   have hw:=width_pos s pos
   have hwn:pos+(Utf8.decode s pos).2≤s.size:=by
    have:=decodeN_le_n' (s.size-pos) (s.get! pos).toNat (s.get! (pos+1)).toNat (s.get! (pos+2)).toNat (s.get! (pos+3)).toNat (by omega)
    rw[←decode_at]at this
    omega
   have hL:pos<s.data.toList.length:=by rw[←size_eq];exact hlt
   simp only[spansFromP,if_pos hlt]
   rcases rune_step s pos hlt with ⟨h1,h2,h3⟩|⟨h1,h2⟩
   ·rw[h1,h3]
    simp only[if_true]
    rw[drop_at _ _ hL,fldGo,if_pos h2]
    cases st with
    | none =>
     have ih:=spans_fld s f (pos+1) none acc (by omega) (by omega) (fun a h=>by cases h)
     simpa [openPiece]using ih
    | some a =>
     have hpn:=pieceU_ne s.data.toList a pos (hst a rfl) (by omega)
     have ih:=spans_fld s f (pos+1) none (acc++[(a,pos)]) (by omega) (by omega) (fun a h=>by cases h)
     simpa [openPiece,hpn]using ih
   ·rw[h1]
    simp only[Bool.false_eq_true,if_false]
    have e0:s.data.toList.drop pos=(s.data.toList.drop pos).take (Utf8.decode s pos).2++s.data.toList.drop (pos+(Utf8.decode s pos).2):=by
     rw[←List.drop_drop,List.take_append_drop]
    rw[e0,fldGo_run _ _ _ h2]
    cases st with
    | none =>
     have ih:=spans_fld s f (pos+(Utf8.decode s pos).2) (some pos) acc (by omega) hwn (fun a h=>by cases h;omega)
     have e:([]:List UInt8)++(s.data.toList.drop pos).take (Utf8.decode s pos).2=pieceU s.data.toList pos (pos+(Utf8.decode s pos).2):=by
      unfold pieceU
      rw[List.nil_append,Nat.add_sub_cancel_left]
     simp only[openPiece]at ih ⊢
     rw[e]
     exact ih
    | some a =>
     have ih:=spans_fld s f (pos+(Utf8.decode s pos).2) (some a) acc (by omega) hwn (fun b h=>by cases h;have:=hst a rfl;omega)
     simp only[openPiece]at ih ⊢
     rw[pieceU_grow _ _ _ _ (Nat.le_of_lt (hst a rfl))]
     exact ih
  ·obtain rfl:pos=s.size:=by omega
   have hd:s.data.toList.drop s.size=[]:=List.drop_eq_nil_of_le (by rw[←size_eq];exact Nat.le_refl _)
   rw[hd,fldGo_nil,spansFromP_end _ s _ _ _ _ hlt]
   cases st with
   | none=>simp[closeSpans,openPiece]
   | some a =>
    have:=pieceU_ne s.data.toList a s.size (hst a rfl) (by rw[←size_eq];exact Nat.le_refl _)
    simp[closeSpans,openPiece,this]
theorem goFields_fld (s:ByteArray):goFieldsP isSepR s=(fldGo [] s.data.toList).map fun x=>(⟨x.toArray⟩:ByteArray):=by
 have h:=spans_fld s s.size 0 none [] (by omega) (Nat.zero_le _) (fun a h=>by cases h)
 simp only[List.map_nil,List.nil_append,openPiece,List.drop_zero]at h
 rw[h,List.map_map]
 unfold goFieldsP spansOfP
 refine List.map_congr_left fun p _=>?_
 apply ByteArray.ext
 apply Array.toList_inj.mp
 simp[pieceU]
theorem index_one_eq (c:UInt8) (r:Bs):index (c::r) [c]=0:=by rw[index];simp[List.isPrefixOf]
theorem index_one_ne (x c:UInt8) (r:Bs) (h:x≠c):index (x::r) [c]=if index r [c]==-1 then -1 else index r [c]+1:=by
 have hp:([c]:List UInt8).isPrefixOf (x::r)=false:=by simp[List.isPrefixOf,Ne.symm h]
 rw[index,hp];simp
theorem index_miss {x c:UInt8} {r : Bs} (h:x≠c) (hm:index r [c]=-1):index (x::r) [c]=-1:=by rw[index_one_ne x c r h,hm];rfl
theorem index_hit {x c:UInt8} {r : Bs} (h:x≠c) {j : Nat} (hm:index r [c]=j):index (x::r) [c]=((j+1:Nat):Int):=by
 rw[index_one_ne x c r h,hm,if_neg (by simp)];omega
theorem index_nat {c : UInt8} {r : Bs} (h:index r [c]≠-1):∃ j:Nat,index r [c]=j:=by
 have:=index_ge r [c]
 exact⟨(index r [c]).toNat,by omega⟩
theorem split_spl (c:UInt8):∀ s:Bs,split s [c]=spl c s
 | []=>by unfold split;rw[count_miss (by simp[index])];rfl
 | x::r=>by
  have ih:=split_spl c r
  by_cases hx:x=c
  ·subst hx
   unfold split
   rw[count_cons_eq,Nat.add_comm,splitK,index_one_eq,if_neg (by decide),spl,if_pos rfl,←ih]
   rfl
  ·unfold split at ih ⊢
   rw[count_cons_ne x c r hx,spl,if_neg hx,←ih]
   cases hn:count r [c]with
   | zero=>rfl
   | succ k =>
    obtain⟨j,hj⟩:=index_nat (c:=c) (r:=r) fun e=>by rw[count_miss e]at hn;omega
    rw[splitK,splitK,index_hit hx hj,hj,if_neg (by simp;omega),if_neg (by simp)]
    rfl
theorem cut_ahead (c:UInt8):∀ s:Bs,(cut s [c]).1=ahead c s∧(cut s [c]).2.1=s.drop ((ahead c s).length+1)
 | []=>by simp[cut,index,ahead]
 | x::r=>by
  obtain⟨h1,h2⟩:=cut_ahead c r
  by_cases hx:x=c
  ·subst hx
   unfold cut
   rw[index_one_eq,if_pos (by decide)]
   simp[ahead]
  ·have ha:ahead c (x::r)=x::ahead c r:=by unfold ahead;rw[List.takeWhile_cons,if_pos (by simpa using hx)]
   rw[ha]
   unfold cut at h1 h2 ⊢
   by_cases hm:index r [c]=-1
   ·rw[hm,if_neg (by decide)]at h1 h2
    rw[index_miss hx hm,if_neg (by decide)]
    exact⟨congrArg (x::·) h1,h2⟩
   ·obtain⟨j,hj⟩:=index_nat hm
    rw[hj,if_pos (by omega)]at h1 h2
    rw[index_hit hx hj,if_pos (by omega)]
    rw[Int.toNat_natCast]at h1 h2 ⊢
    refine⟨congrArg (x::·) h1,?_⟩
    show (x::r).drop (j+1+1)=_
    exact h2
def valD (l:List UInt8):Nat:=l.foldl (fun a c=>10*a+(c.toNat-48)) 0
theorem valD_snoc (l:List UInt8) (c:UInt8):valD (l++[c])=10*valD l+(c.toNat-48):=by unfold valD;rw[List.foldl_append];rfl
theorem valD_digits (u:Nat):valD (Lib.decDigits u)=u:=by
 induction u using Nat.strongRecOn with
 | ind u ih =>
  by_cases h:u<10
  ·rw[decDigits_small h]
   show 10*0+((UInt8.ofNat (48+u)).toNat-48)=u
   rw[digit_nat h];omega
  ·rw[decDigits_big h,valD_snoc,ih (u / 10) (by omega),digit_nat (by omega)]
   omega
def signed (neg:Bool) (x:Nat):Int:=if neg then -(x:Int) else x
def emitL (n:Int) (l:List ByteArray):List (List ByteArray × Int):=if l=[] then [] else [(l,n)]
def numd:Int→List (List ByteArray)→List (List ByteArray × Int)
 | _,[]=>[]
 | n,x::r=>emitL n x++numd (n+1) r
end Go.Proofs.YtmhojfpidedjeaaGreatDoor
