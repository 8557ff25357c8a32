/- A region that draws its order, by what is known of each operation's value: whatever order is drawn, each operation runs when those it stands behind have run; what is known of their values is such that later memory does not turn it. One proof an operation serves all orders. The operations' names: wor -/
import Derived.Test.YtmhojfpidedjeaaGreatDoorRz00
import Derived.Test.YtmhojfpidedjeaaGreatDoorRz01
import Derived.RegionTactic
import Derived.Lib.ItoaLen
namespace Go.Proofs.YtmhojfpidedjeaaGreatDoor
open Go.RowKit
def putAll:List Oper→Nat→(Nat→Value)→Act→Act
 | [],_,_,a=>a
 | o::r,k,vs,a=>putAll r (k+1) vs (a.put o.dst (vs k))
def dstsApart:List Oper→Bool
 | []=>true
 | o::r=>(r.all fun p=>match o.dst,p.dst with | some d,some e=>d != e | _,_=>true)&&dstsApart r
theorem apart_head {o : Oper} {r : List Oper} (h:dstsApart (o::r)=true):(∀ p∈r,∀ d,o.dst=some d→p.dst≠some d)∧dstsApart r=true:=by
 unfold dstsApart at h
 rw[Bool.and_eq_true,List.all_eq_true]at h
 refine⟨fun p hp d hd hc=>?_,h.2⟩
 have:=h.1 p hp
 rw[hd,hc]at this
 simp at this
theorem putAll_put (dst:Option Tmp) (v:Value):∀ (l:List Oper) (k:Nat) (vs:Nat→Value) (a:Act),(∀ p∈l,∀ d,dst=some d→p.dst≠some d)→(putAll l k vs a).put dst v=putAll l k vs (a.put dst v)
 | [],_,_,_,_=>rfl
 | o::r,k,vs,a,h=>by
  show (putAll r (k+1) vs (a.put o.dst (vs k))).put dst v=putAll r (k+1) vs ((a.put dst v).put o.dst (vs k))
  rw[putAll_put dst v r (k+1) vs _ (fun p hp=>h p (List.mem_cons_of_mem _ hp)),Act.put_comm a v (vs k) (h o List.mem_cons_self)]
theorem putAll_congr:∀ (l:List Oper) (k:Nat) (vs vs':Nat→Value) (a:Act),(∀ j,k≤j→vs j=vs' j)→putAll l k vs a=putAll l k vs' a
 | [],_,_,_,_,_=>rfl
 | o::r,k,vs,vs',a,h=>by
  show putAll r (k+1) vs _=putAll r (k+1) vs' _
  rw[h k (Nat.le_refl _)]
  exact putAll_congr r (k+1) vs vs' _ fun j hj=>h j (by omega)
theorem put_put (a:Act) (x:Option Tmp) (v u:Value):(a.put x v).put x u=a.put x u:=by
 cases x with
 | none=>rfl
 | some d=>simp[Act.put,Array.setIfInBounds_setIfInBounds]
def upd (vs:Nat→Value) (i:Nat) (v:Value):Nat→Value:=fun j=>if j=i then v else vs j
theorem upd_same (vs:Nat→Value) (i:Nat) (v:Value):upd vs i v i=v:=if_pos rfl
theorem upd_other (vs:Nat→Value) {i j:Nat} (v:Value) (h:j≠i):upd vs i v j=vs j:=if_neg h
theorem putAll_upd (v:Value):∀ (l:List Oper) (k:Nat) (vs:Nat→Value) (a:Act) (i:Nat) (o:Oper),l[i]? = some o→dstsApart l=true→putAll l k (upd vs (k+i) v) a=(putAll l k vs a).put o.dst v
 | [],_,_,_,_,_,h,_=>by cases h
 | p::r,k,vs,a,0,o,h,hd=>by
  obtain rfl:p=o:=by simpa using h
  show putAll r (k+1) (upd vs (k+0) v) (a.put p.dst (upd vs (k+0) v k))=(putAll r (k+1) vs (a.put p.dst (vs k))).put p.dst v
  rw[putAll_put p.dst v r (k+1) vs _ (apart_head hd).1,put_put]
  simp only[Nat.add_zero,upd_same]
  exact putAll_congr r (k+1) _ _ _ fun j hj=>upd_other _ _ (by omega)
 | p::r,k,vs,a,i+1,o,h,hd=>by
  have hr:r[i]? = some o:=by simpa using h
  show putAll r (k+1) (upd vs (k+(i+1)) v) (a.put p.dst (upd vs (k+(i+1)) v k))=(putAll r (k+1) vs (a.put p.dst (vs k))).put o.dst v
  rw[upd_other _ _ (by omega:k≠k+(i+1)),show k+(i+1)=k+1+i from by omega]
  exact putAll_upd v r (k+1) vs _ i o hr (apart_head hd).2
theorem put_old (a:Act) (d:Tmp):a.put (some d) (a.tmps.getD d undef)=a:=by
 have:a.tmps.setIfInBounds d (a.tmps.getD d undef)=a.tmps:=by
  apply Array.ext_getElem?
  intro j
  rw[Array.getElem?_setIfInBounds]
  by_cases h:d=j
  ·subst h
   by_cases hd:d<a.tmps.size
   ·simp[hd]
   ·simp[hd]
  ·simp[h]
 simp only[Act.put,this]
def oldAt (l:List Oper) (a:Act):Nat→Value:=fun i=>match (l[i]?).bind (·.dst) with | some d=>a.tmps.getD d undef | none=>undef
theorem putAll_old (old:Nat→Value) (a:Act):∀ (l:List Oper) (k:Nat),(∀ (i:Nat) (o:Oper) (d:Tmp),l[i]? = some o→o.dst=some d→old (k+i)=a.tmps.getD d undef)→putAll l k old a=a
 | [],_,_=>rfl
 | o::r,k,h=>by
  show putAll r (k+1) old (a.put o.dst (old k))=a
  have e:a.put o.dst (old k)=a:=by
   cases ho:o.dst with
   | none=>rfl
   | some d=>rw[show old k=a.tmps.getD d undef from h 0 o d rfl ho];exact put_old a d
  rw[e]
  exact putAll_old old a r (k+1) fun i p d hi hd=>by rw[show k+1+i=k+(i+1) from by omega];exact h (i+1) p d (by simpa using hi) hd
def edgesBack:List Oper→Nat→Bool
 | [],_=>true
 | o::r,k=>(o.after.all fun e=>!Region.binds .any e||decide (e.on<k))&&edgesBack r (k+1)
theorem edges_back:∀ (l:List Oper) (k:Nat),edgesBack l k=true→∀ (i:Nat) (o:Oper),l[i]? = some o→∀ e∈o.after,Region.binds .any e=true→e.on<k+i
 | [],_,_,_,_,h=>by cases h
 | p::r,k,hb,i,o,h=>by
  unfold edgesBack at hb
  rw[Bool.and_eq_true]at hb
  cases i with
  | zero =>
   obtain rfl:p=o:=by simpa using h
   intro e he hbd
   have:=(Array.all_eq_true_iff_forall_mem.1 hb.1) e he
   rw[hbd]at this
   simpa using this
  | succ i =>
   intro e he hbd
   have:=edges_back r (k+1) hb.2 i o (by simpa using h) e he hbd
   omega
def Knows (F:Nat→Value→World→Prop) (vs:Nat→Value) (w:World):List Edge→Prop
 | []=>True
 | e::r=>(match e.ground with | .textOnly _=>True | .gcOnly _=>True | _=>F e.on (vs e.on) w)∧Knows F vs w r
theorem knows_of (F:Nat→Value→World→Prop) (vs:Nat→Value) (w:World):∀ (l:List Edge),(∀ e∈l,Region.binds .any e=true→F e.on (vs e.on) w)→Knows F vs w l
 | [],_=>trivial
 | e::r,h=>by
  refine⟨?_,knows_of F vs w r fun x hx=>h x (List.mem_cons_of_mem _ hx)⟩
  have:=h e List.mem_cons_self
  unfold Region.binds at this
  revert this
  cases e.ground<;>intro this<;>first | trivial | exact this rfl
def KnowsAll (F:Nat→Value→World→Prop) (vs:Nat→Value) (w:World):Nat→Nat→Prop
 | _,0=>True
 | k,n+1=>F k (vs k) w∧KnowsAll F vs w (k+1) n
theorem knowsAll_of (F:Nat→Value→World→Prop) (vs:Nat→Value) (w:World):∀ (n k:Nat),(∀ i,k≤i→i<k+n→F i (vs i) w)→KnowsAll F vs w k n
 | 0,_,_=>trivial
 | n+1,k,h=>⟨h k (Nat.le_refl _) (by omega),knowsAll_of F vs w n (k+1) fun i h1 h2=>h i (by omega) (by omega)⟩
def Left (F:Nat→Value→World→Prop) (i:Nat) (dst:Option Tmp) (a:Act) (w:World) (a':Act) (w':World):Prop:=∃ v,a'=a.put dst v∧F i v w'∧Since w w'
def OneQ (Q:Exit→Act→World→Prop) (F:Nat→Value→World→Prop) (i:Nat) (dst:Option Tmp) (a:Act) (w:World):Exit→Act→World→Prop
 | .normal,a',w'=>Left F i dst a w a' w'
 | e,a',w'=>Q e a' w'
theorem Oper.wp_turn {P : Program} {o : Oper} {a : Act} {w : World} {K : Act→World→Prop} {Q Q':Exit→Act→World→Prop} (h1:∀ c a w,Q' (.panic c) a w→Q (.panic c) a w) (h2:LetsOut Q'→LetsOut Q)
  (hh:o.wp P a w K Q'):o.wp P a w K Q:=by
 unfold Oper.wp at *
 generalize (execOp a.eval o).run P w=r at *
 cases r with
 | ok n w' =>
  cases n<;>simp only[Oper.upon]at hh ⊢ <;>
   first
    | exact hh
    | exact Calls.mono hh (fun e w'' he=>by cases e<;>first | exact he | exact h1 _ _ _ he | exact h2 he)
 | halt x w'=>cases x<;>simp only[Oper.upon]at hh ⊢<;>first | exact hh | exact h1 _ _ _ hh
def Steps1 (P:Program) (all:Array Oper) (Q:Exit→Act→World→Prop) (F:Nat→Value→World→Prop) (a0:Act) (w0:World):List Oper→Nat→Prop
 | [],_=>True
 | o::r,k=>(∀ (vs:Nat→Value) (w:World),Since w0 w→Knows F vs w o.after.toList →
   wpList P all (OneQ Q F k o.dst (putAll all.toList 0 vs a0) w) [o] (putAll all.toList 0 vs a0) w)∧Steps1 P all Q F a0 w0 r (k+1)
theorem steps_at {P : Program} {all:Array Oper} {Q : Exit→Act→World→Prop} {F : Nat→Value→World→Prop} {a0:Act} {w0:World}:∀ (l:List Oper) (k:Nat),Steps1 P all Q F a0 w0 l k→∀ (i:Nat) (o:Oper),l[i]? = some o→all[k+i]? = some o →
  ∀ (vs:Nat→Value) (w:World),Since w0 w→Knows F vs w o.after.toList→∀ K:Act→World→Prop,(∀ a' w',Left F (k+i) o.dst (putAll all.toList 0 vs a0) w a' w'→K a' w') →
   wpOp P all Q (k+i) K (putAll all.toList 0 vs a0) w
 | [],_,_,_,_,h,_=>by cases h
 | p::r,k,h,0,o,ho,hall=>by
  obtain rfl:p=o:=by simpa using ho
  intro vs w hw hk K hK
  have:=h.1 vs w hw hk
  unfold wpOp
  rw[hall]
  simp only[wpList]at this
  show if _ then _ else _
  split
  ·rename_i hwant
   rw[if_pos hwant]at this
   rcases this with this|⟨h1,h2⟩
   ·exact .inl (Oper.wp_turn (fun _ _ _ h=>h) (fun h=>h) (Oper.wp_mono (fun a' w' h=>hK a' w' h) this))
   ·exact .inr ⟨h1,h2⟩
  ·rename_i hwant
   rw[if_neg hwant]at this
   exact hK _ _ this
 | p::r,k,h,i+1,o,ho,hall=>by
  have:=steps_at r (k+1) h.2 i o (by simpa using ho) (by rw[show k+1+i=k+(i+1) from by omega];exact hall)
  rw[show k+1+i=k+(i+1) from by omega]at this
  exact this
section
variable {P : Program} {Q : Exit→Act→World→Prop} {l : List Oper} {F : Nat→Value→World→Prop} {a0:Act} {w0:World}
theorem any_facts (hF:∀ i v w w',F i v w→Since w w'→F i v w') (hd:dstsApart l=true) (hb:edgesBack l 0=true)
  (hs:Steps1 P l.toArray Q F a0 w0 l 0)
  (he:∀ vs w,Since w0 w→KnowsAll F vs w 0 l.length→Q .normal (putAll l 0 vs a0) w) :
  ∀ (fuel:Nat) (listed:Array Bool) (vs:Nat→Value) (w:World),listed.size=l.length→((List.range l.length).filter fun i=>!listed.getD i true).length≤fuel→Since w0 w →
   (∀ i,i<l.length→listed.getD i true=true→F i (vs i) w)→wpAny P .any l.toArray Q fuel listed (putAll l 0 vs a0) w:=by
 have hend:∀ (listed:Array Bool) (vs:Nat→Value) (w:World),listed.size=l.length→Region.ready .any l.toArray listed=[]→Since w0 w →
   (∀ i,i<l.length→listed.getD i true=true→F i (vs i) w)→Q .normal (putAll l 0 vs a0) w:=by
  intro listed vs w hsz hr hw hk
  refine he vs w hw (knowsAll_of F vs w _ 0 fun i _ hi=>hk i (by omega) ?_)
  have all:∀ (n i:Nat),i<n→i<l.length→listed.getD i true=true:=by
   intro n
   induction n with
   | zero=>intro i h;omega
   | succ n ih =>
    intro i h1 h2
    cases hl:listed.getD i true with
    | true=>rfl
    | false =>
     exfalso
     have:i∈Region.ready .any l.toArray listed:=by
      rw[mem_ready]
      have ho:l[i]? = some l[i]:=List.getElem?_eq_getElem h2
      refine⟨hl,l[i],by simp,fun e hee hbd=>?_⟩
      have hlt:=edges_back l 0 hb i l[i] ho e hee hbd
      have:=ih e.on (by omega) (by omega)
      have hin:e.on<listed.size:=by omega
      rw[Array.getD_eq_getD_getElem?,Array.getElem?_eq_getElem hin]at this ⊢
      simpa using this
     rw[hr]at this
     cases this
  exact all (i+1) i (by omega) (by omega)
 intro fuel
 induction fuel with
 | zero =>
  intro listed vs w hsz hn hw hk
  have hr:Region.ready .any l.toArray listed=[]:=by
   rw[List.eq_nil_iff_forall_not_mem]
   intro i hi
   rw[mem_ready]at hi
   obtain⟨h1,o,ho,_⟩:=hi
   have hlt:i<l.length:=by simpa using (Array.getElem?_eq_some_iff.1 ho).1
   have:i∈(List.range l.length).filter fun i=>!listed.getD i true:=by
    rw[List.mem_filter];exact⟨List.mem_range.2 hlt,by simp[h1]⟩
   have:=List.length_pos_of_mem this
   omega
  exact⟨hr,hend listed vs w hsz hr hw hk⟩
 | succ fuel ih =>
  intro listed vs w hsz hn hw hk
  refine⟨fun hr=>hend listed vs w hsz hr hw hk,fun i hi=>?_⟩
  rw[mem_ready]at hi
  obtain⟨h1,o,ho,hpre⟩:=hi
  have hol:l[i]? = some o:=by simpa using ho
  have hlt:i<l.length:=(List.getElem?_eq_some_iff.1 hol).1
  have hknow:Knows F vs w o.after.toList:=by
   refine knows_of F vs w _ fun e hee hbind=>?_
   have hee':e∈o.after:=by simpa using hee
   have hlt2:=edges_back l 0 hb i o hol e hee' hbind
   have hon:e.on<l.length:=by omega
   refine hk e.on hon ?_
   have:=hpre e hee' hbind
   have hin:e.on<listed.size:=by omega
   rw[Array.getD_eq_getD_getElem?,Array.getElem?_eq_getElem hin]at this ⊢
   simpa using this
  have hstep:=steps_at l 0 hs i o hol (by simpa using hol) vs w hw hknow
  rw[Nat.zero_add]at hstep
  refine hstep _ fun a' w' ⟨v,ha',hv,hw'⟩=>?_
  subst ha'
  have e:=putAll_upd v l 0 vs a0 i o hol hd
  rw[Nat.zero_add]at e
  rw[show l.toArray.toList=l from rfl,←e]
  refine ih (listed.setIfInBounds i true) (upd vs i v) w' (by simpa using hsz) ?_ (hw.trans hw') ?_
  ·have e2:((List.range l.length).filter fun j=>!(listed.setIfInBounds i true).getD j true)=((List.range l.length).filter fun j=>!listed.getD j true).filter fun j=>j != i:=by
    rw[List.filter_filter]
    refine List.filter_congr fun j hj=>?_
    by_cases hji:j=i
    ·subst hji
     have hin:j<listed.size:=by omega
     simp[Array.getD_eq_getD_getElem?,hin]
    ·rw[getD_set_ne _ (Ne.symm hji)];simp[hji]
   rw[e2]
   have hmem:i∈(List.range l.length).filter fun j=>!listed.getD j true:=by
    rw[List.mem_filter];exact⟨List.mem_range.2 hlt,by simp[h1]⟩
   have:=(List.length_filter_lt_length_iff_exists (p:=fun j=>j != i) (l:=(List.range l.length).filter fun j=>!listed.getD j true)).2 ⟨i,hmem,by simp⟩
   omega
  ·intro j hj hlj
   by_cases hji:j=i
   ·subst hji;rw[upd_same];exact hv
   ·rw[upd_other _ _ hji]
    rw[getD_set_ne _ (Ne.symm hji)]at hlj
    exact hF _ _ _ _ (hk j hj hlj) hw'
theorem wp_region_facts {id:Nat} (hm:P.follows .mixedOrders=true) (hd:dstsApart l=true) (hb:edgesBack l 0=true) (F:Nat→Value→World→Prop) (hF:∀ i v w w',F i v w→Since w w'→F i v w')
  (hs:Steps1 P l.toArray Q F a0 w0 l 0)
  (he:∀ vs w,Since w0 w→KnowsAll F vs w 0 l.length→Q .normal (putAll l 0 vs a0) w):(Code.region id l.toArray true).wp P Q a0 w0:=by
 refine wp_region_any hm ?_
 have e:=putAll_old (oldAt l a0) a0 l 0 (fun i o d hi hdst=>by simp[oldAt,hi,hdst])
 have h:=any_facts hF hd hb hs he l.length (Array.replicate l.length false) (oldAt l a0) { w0 with drawn:=w0.drawn+1 } (by simp) (Nat.le_trans (List.length_filter_le _ _) (by simp)) (Since.refl w0).drew
  (fun i hi hl=>by simp[Array.getD_eq_getD_getElem?,hi]at hl)
 rw[e]at h
 simpa using h
end
def nthF:List (Value→World→Prop)→Nat→Value→World→Prop
 | [],_=>fun _ _=>True
 | f::_,0=>f
 | _::r,i+1=>nthF r i
def Stable (f:Value→World→Prop):Prop:=∀ v w w',f v w→Since w w'→f v w'
def AllStable:List (Value→World→Prop)→Prop
 | []=>True
 | f::r=>Stable f∧AllStable r
theorem nthF_stable:∀ (l:List (Value→World→Prop)),AllStable l→∀ i v w w',nthF l i v w→Since w w'→nthF l i v w'
 | [],_,_,_,_,_,_,_=>trivial
 | _::_,h,0,v,w,w',hv,hs=>h.1 v w w' hv hs
 | _::r,h,i+1,v,w,w',hv,hs=>nthF_stable r h.2 i v w w' hv hs
def Is (x:Value) (v:Value) (_:World):Prop:=v=x
def Any (_:Value) (_:World):Prop:=True
def IsNums (k:IntKind) (l:List Int) (v:Value) (w:World):Prop:=Nums k w v l
theorem Is.stable (x:Value):Stable (Is x):=fun _ _ _ h _=>h
theorem Any.stable:Stable Any:=fun _ _ _ h _=>h
theorem IsNums.stable (k:IntKind) (l:List Int):Stable (IsNums k l):=fun _ _ _ h hs=>Nums.keep h hs
theorem wp_region_list_facts {P : Program} {Q : Exit→Act→World→Prop} {l : List Oper} {a0:Act} {w0:World} {id:Nat} (hm:P.follows .mixedOrders=true) (hd:dstsApart l=true) (hb:edgesBack l 0=true) (Fs:List (Value→World→Prop)) (hF:AllStable Fs)
  (hs:Steps1 P l.toArray Q (nthF Fs) a0 w0 l 0)
  (he:∀ vs w,Since w0 w→KnowsAll (nthF Fs) vs w 0 l.length→Q .normal (putAll l 0 vs a0) w):(Code.region id l.toArray true).wp P Q a0 w0:=
 wp_region_facts hm hd hb (nthF Fs) (nthF_stable Fs hF) hs he
set_option linter.unusedVariables false
def opNames:List ByteArray:=[⟨#[99,111,110,115,116]⟩,⟨#[97,100,100]⟩,⟨#[115,117,98]⟩,⟨#[109,117,108]⟩,⟨#[97,110,100]⟩,⟨#[111,114]⟩,⟨#[120,111,114]⟩,⟨#[115,104,108]⟩,⟨#[115,104,114]⟩,⟨#[115,97,114]⟩,⟨#[101,113]⟩,⟨#[108,116]⟩,⟨#[108,116,117]⟩,⟨#[100,105,118]⟩,⟨#[108,111,97,100]⟩,⟨#[115,116,111,114,101]⟩,⟨#[99,97,108,108]⟩,⟨#[109,117,108,119]⟩]
def namesText:ByteArray:=⟨#[99,111,110,115,116,32,97,100,100,32,115,117,98,32,109,117,108,32,97,110,100,32,111,114,32,120,111,114,32,115,104,108,32,115,104,114,32,115,97,114,32,101,113,32,108,116,32,108,116,117,32,100,105,118,32,108,111,97,100,32,115,116,111,114,101,32,99,97,108,108,32,109,117,108,119]⟩
theorem fields_names0:Lib.fields namesText.data.toList=opNames.map fun s=>s.data.toList:=by decide +kernel
theorem fields_names:((Lib.fields namesText.data.toList).map fun l=>Value.string ⟨l.toArray⟩)=opNames.map Value.string:=by
 rw[fields_names0,List.map_map]
 refine List.map_congr_left fun s _=>?_
 obtain⟨⟨l⟩⟩:=s
 rfl
theorem names_ascii:∀ (j:Nat) b,namesText.data.toList[j]? = some b→b.toNat<128:=by
 have h:namesText.data.toList.all (fun b=>decide (b.toNat<128))=true:=by decide +kernel
 intro j b hb
 have:=List.all_eq_true.1 h b (List.mem_of_getElem? hb)
 simpa using this
def nameF (op:Int):ByteArray:=if op<1∨18<op then ByteArray.empty else opNames.getD (op-1).toNat ByteArray.empty
def numberF (s:ByteArray):Int:=1+Lib.idxOfS opNames s
def NamesAt (w:World) (b:Nat):Prop:=b<w.heap.size∧∀ j,j<18→w.cell? ⟨b,0+j,none⟩=some (.string (opNames.getD j ByteArray.empty))
theorem names_block (w:World) (T:TypeId):NamesAt (w.alloc (.cells (opNames.map Value.string).toArray T)) w.heap.size:=by
 refine⟨by simp,fun j hj=>?_⟩
 have h:(opNames.map Value.string)[j]? = some (.string (opNames.getD j ByteArray.empty)):=by
  have hl:j<opNames.length:=hj
  rw[List.getElem?_map,List.getElem?_eq_getElem hl,List.getD_eq_getElem?_getD,List.getElem?_eq_getElem hl]
  rfl
 simp only[World.cell?,heap_last,Nat.zero_add]
 simpa using h
def NamesQ (w:World) (e:Ending) (w':World):Prop:=e=.returned (.slice (some ⟨w.heap.size,0,none⟩) 18 18)∧NamesAt w' w.heap.size∧Below w.heap.size w w'
theorem fields_any (w : World) (htab : Lib.TabIs Tryz.prog w "strings.asciiSpace" .u8 Lib.asciiSpaceTab) : Calls Tryz.prog 48 #[.string namesText] w (NamesQ w) := by
 refine (Tryz.strings_Fields namesText w (by decide +kernel) names_ascii htab).mono ?_
 rintro e w' ⟨rfl,rfl⟩
 have hl:(Lib.fields namesText.data.toList).length=18:=by decide +kernel
 rw[hl,fields_names]
 exact⟨rfl,names_block w _,(Below.refl _ _).alloc (Nat.le_refl _) _⟩
theorem rnames_any (w:World):Calls Tryz.prog 86 #[] w (NamesQ w):=by
 go_enter Tryz.func86,Tryz.ntmps86
 go_wp2
 go_ret
 exact⟨rfl,names_block w _,(Below.refl _ _).alloc (Nat.le_refl _) _⟩
def StrQ (s:ByteArray) (w:World) (e:Ending) (w':World):Prop:=e=.returned (.string s)∧Below w.heap.size w w'
set_option maxHeartbeats 1000000 in
set_option maxRecDepth 100000 in
theorem name_any (op : Int) (w : World) (ho : -9223372036854775808 ≤ op ∧ op ≤ 9223372036854775807) (htab : Lib.TabIs Tryz.prog w "strings.asciiSpace" .u8 Lib.asciiSpaceTab) :
  Calls Tryz.prog 47 #[.int .i64 op] w (StrQ (nameF op) w):=by
 have hf:=fields_any w htab
 obtain⟨y,hy⟩:∃ y,nameF op=y:=⟨_,rfl⟩
 have HF:=Lib.hid hf
 have HY:=Lib.hid hy
 rw[hy]
 clear hf hy htab
 by_cases h1:op<1
 ·obtain rfl:ByteArray.empty=y:=by rw[←HY.out];unfold nameF;rw[if_pos (.inl h1)]
  go_enter Tryz.func47,Tryz.ntmps47
  go_wp2_with fail
  refine HF.out.mono ?_
  rintro e w1 ⟨rfl,hn,hb⟩
  have HB:=Lib.hid hb
  clear hn hb
  go_wp2
  go_ret
  exact⟨rfl,HB.out⟩
 ·by_cases h2:18<op
  ·obtain rfl:ByteArray.empty=y:=by rw[←HY.out];unfold nameF;rw[if_pos (.inr h2)]
   go_enter Tryz.func47,Tryz.ntmps47
   go_wp2_with fail
   refine HF.out.mono ?_
   rintro e w1 ⟨rfl,hn,hb⟩
   have HB:=Lib.hid hb
   clear hn hb
   go_wp2
   go_ret
   exact⟨rfl,HB.out⟩
  ·obtain⟨k,rfl⟩:∃ k:Nat,op=(k:Int)+1:=⟨(op-1).toNat,by omega⟩
   have hk:k<18:=by omega
   have he:nameF ((k:Int)+1)=opNames.getD k ByteArray.empty:=by unfold nameF;rw[if_neg (by omega),show ((k:Int)+1-1).toNat=k from by omega]
   rw[he]at HY
   clear he
   go_enter Tryz.func47,Tryz.ntmps47
   go_wp2_with fail
   refine HF.out.mono ?_
   rintro e w1 ⟨rfl,hn,hb⟩
   have hc:w1.cell? ⟨w.heap.size,0+k,none⟩=some (.string y):=by rw[←HY.out];exact hn.2 k hk
   rw[Nat.zero_add]at hc
   have hl:=hn.1
   have HB:=Lib.hid hb
   clear hn hb
   go_wp2
   go_ret
   exact⟨rfl,HB.out⟩
set_option maxHeartbeats 1000000 in
set_option maxRecDepth 100000 in
theorem rname_any (op:Int) (w:World) (ho : -9223372036854775808≤op∧op≤9223372036854775807) :
  Calls Tryz.prog 49 #[.int .i64 op] w (StrQ (nameF op) w):=by
 have hf:=rnames_any w
 obtain⟨y,hy⟩:∃ y,nameF op=y:=⟨_,rfl⟩
 have HF:=Lib.hid hf
 have HY:=Lib.hid hy
 rw[hy]
 clear hf hy
 by_cases h1:op<1
 ·obtain rfl:ByteArray.empty=y:=by rw[←HY.out];unfold nameF;rw[if_pos (.inl h1)]
  go_enter Tryz.func49,Tryz.ntmps49
  go_wp2_with fail
  refine HF.out.mono ?_
  rintro e w1 ⟨rfl,hn,hb⟩
  have HB:=Lib.hid hb
  clear hn hb
  go_wp2
  go_ret
  exact⟨rfl,HB.out⟩
 ·by_cases h2:18<op
  ·obtain rfl:ByteArray.empty=y:=by rw[←HY.out];unfold nameF;rw[if_pos (.inr h2)]
   go_enter Tryz.func49,Tryz.ntmps49
   go_wp2_with fail
   refine HF.out.mono ?_
   rintro e w1 ⟨rfl,hn,hb⟩
   have HB:=Lib.hid hb
   clear hn hb
   go_wp2
   go_ret
   exact⟨rfl,HB.out⟩
  ·obtain⟨k,rfl⟩:∃ k:Nat,op=(k:Int)+1:=⟨(op-1).toNat,by omega⟩
   have hk:k<18:=by omega
   have he:nameF ((k:Int)+1)=opNames.getD k ByteArray.empty:=by unfold nameF;rw[if_neg (by omega),show ((k:Int)+1-1).toNat=k from by omega]
   rw[he]at HY
   clear he
   go_enter Tryz.func49,Tryz.ntmps49
   go_wp2_with fail
   refine HF.out.mono ?_
   rintro e w1 ⟨rfl,hn,hb⟩
   have hc:w1.cell? ⟨w.heap.size,0+k,none⟩=some (.string y):=by rw[←HY.out];exact hn.2 k hk
   rw[Nat.zero_add]at hc
   have hl:=hn.1
   have HB:=Lib.hid hb
   clear hn hb
   go_wp2
   go_ret
   exact⟨rfl,HB.out⟩
def IntQ (x:Int) (w:World) (e:Ending) (w':World):Prop:=e=.returned (.int .i64 x)∧Below w.heap.size w w'
theorem idx_bounds (s:ByteArray) : -1≤Lib.idxOfS opNames s∧Lib.idxOfS opNames s<18:=by
 by_cases h:∃ k,k<opNames.length∧opNames.getD k ByteArray.empty=s∧∀ j,j<k→opNames.getD j ByteArray.empty≠s
 ·obtain⟨k,h1,h2,h3⟩:=h
  have hk:k<18:=h1
  have:=Lib.idxFromS_hit s opNames k 0 h1 h2 h3
  unfold Lib.idxOfS
  rw[this];omega
 ·have hno:∀ j,j<opNames.length→opNames.getD j ByteArray.empty≠s:=by
   intro j
   induction j using Nat.strongRecOn with
   | ind j ih=>intro hj e;exact h ⟨j,hj,e,fun i hi=>ih i hi (by omega)⟩
  have:=Lib.idxFromS_miss s opNames 0 hno
  unfold Lib.idxOfS
  rw[this];omega
set_option maxHeartbeats 1000000 in
set_option maxRecDepth 100000 in
theorem number_any (s : ByteArray) (w : World) (htab : Lib.TabIs Tryz.prog w "strings.asciiSpace" .u8 Lib.asciiSpaceTab) :
  Calls Tryz.prog 75 #[.string s] w (IntQ (numberF s) w):=by
 have HF:=Lib.hid (fields_any w htab)
 have hb:=idx_bounds s
 obtain⟨y,hy⟩:∃ y,Lib.idxOfS opNames s=y:=⟨_,rfl⟩
 unfold numberF
 rw[hy]at hb ⊢
 have HY:=Lib.hid hy
 clear hy htab
 go_enter Tryz.func75,Tryz.ntmps75
 go_wp2_with fail
 refine HF.out.mono ?_
 rintro e w1 ⟨rfl,hn,hb1⟩
 have HI:=Lib.hid (Tryz.slices_Index_string w.heap.size 0 18 18 opNames s w1 (by decide) (by decide) (fun j hj=>hn.2 j hj))
 rw[show opNames.take 18=opNames from rfl,HY.out]at HI
 have HB:=Lib.hid hb1
 clear hn hb1
 go_wp2_with fail
 refine HI.out.mono ?_
 rintro e w2 ⟨rfl,rfl⟩
 go_wp2
 go_ret
 exact⟨rfl,HB.out⟩
set_option maxHeartbeats 1000000 in
set_option maxRecDepth 100000 in
theorem rnumber_any (s:ByteArray) (w:World):Calls Tryz.prog 87 #[.string s] w (IntQ (numberF s) w):=by
 have HF:=Lib.hid (rnames_any w)
 obtain⟨y,hy⟩:∃ y,numberF s=y:=⟨_,rfl⟩
 rw[hy]
 have HY:=Lib.hid hy
 clear hy
 go_enter Tryz.func87,Tryz.ntmps87
 go_wp2_with fail
 refine HF.out.mono ?_
 rintro e w1 ⟨rfl,hn,hb1⟩
 have HN:=Lib.hid hn
 have HB:=Lib.hid hb1
 have hl:=hn.1
 clear hn hb1
 go_wp2_with fail
 go_loop [4] (fun i=>∃ k:Nat,k≤18∧i=.int .i64 k∧∀ j,j<k→opNames.getD j ByteArray.empty≠s) (fun i=>18-(intOf i).toNat)
 case atStart=>exact⟨0,Nat.zero_le _,rfl,fun j hj=>by omega⟩
 case round =>
  obtain⟨k,hk,rfl,hne⟩:=hrel
  have HNE:=Lib.hid hne
  clear hne
  by_cases hlt:k<18
  ·have hc:=HN.out.2 k hlt
   rw[Nat.zero_add]at hc
   obtain⟨z,hz⟩:∃ z,opNames.getD k ByteArray.empty=z:=⟨_,rfl⟩
   rw[hz]at hc
   have HZ:=Lib.hid hz
   clear hz
   by_cases he:z=s
   ·have hq:(z.toList==s.toList)=true:=(Lib.bytes_beq_iff z s).2 he
    have HI:=Lib.hid (show numberF s=(k:Int)+1 from by
     unfold numberF Lib.idxOfS
     rw[Lib.idxFromS_hit s opNames k 0 hlt (HZ.out.trans he) HNE.out]
     omega)
    obtain rfl:(k:Int)+1=y:=HI.out.symm.trans HY.out
    clear he
    go_wp2
    go_ret
    exact⟨rfl,HB.out⟩
   ·have hq:(z.toList==s.toList)=false:=(Lib.bytes_beq_false_iff z s).2 he
    have HX:=Lib.hid he
    clear he
    go_wp2
    go_round
    case rel=>exact⟨k+1,by omega,by go_num,fun j hj=>by
     by_cases h:j<k
     ·exact HNE.out j h
     ·obtain rfl:j=k:=by omega
      rw[HZ.out];exact HX.out⟩
    case measure=>simp[intOf];omega
  ·obtain rfl:18=k:=by omega
   have HI:=Lib.hid (show numberF s=0 from by
    unfold numberF Lib.idxOfS
    rw[Lib.idxFromS_miss s opNames 0 HNE.out];rfl)
   obtain rfl:(0:Int)=y:=HI.out.symm.trans HY.out
   go_wp2
   go_ret
   exact⟨rfl,HB.out⟩
def digB (d:Nat):ByteArray:=⟨#[UInt8.ofNat (48+d)]⟩
theorem digit_at (d:Nat) (h:d<10):(⟨#[48,49,50,51,52,53,54,55,56,57]⟩:ByteArray).extract d (d+1)=digB d:=by
 have h2:∀ d,d<10→(⟨#[48,49,50,51,52,53,54,55,56,57]⟩:ByteArray).extract d (d+1)=digB d:=by decide +kernel
 exact h2 d h
def decB (u:Nat):ByteArray:=⟨(Lib.decDigits u).toArray⟩
theorem bytes_ext {a b:ByteArray} (h:a.data.toList=b.data.toList):a=b:=ByteArray.ext (Array.toList_inj.mp h)
theorem bytes_app (a b:ByteArray):(a++b).data.toList=a.data.toList++b.data.toList:=by
 rw[ByteArray.data_append,Array.toList_append]
def Behind (U u:Nat) (out:ByteArray):Prop:=if u=0 then out=decB U else Lib.decDigits u++out.data.toList=Lib.decDigits U
theorem behind_first (U:Nat):Behind U (U / 10) (digB (U % 10)):=by
 unfold Behind
 by_cases h:U<10
 ·rw[if_pos (by omega)]
  unfold decB digB
  rw[decDigits_small h,Nat.mod_eq_of_lt h]
 ·rw[if_neg (by omega),decDigits_big h];rfl
theorem behind_next {U u:Nat} {out:ByteArray} (h:Behind U u out) (hu:u≠0):Behind U (u / 10) (digB (u % 10)++out):=by
 unfold Behind at h ⊢
 rw[if_neg hu]at h
 by_cases h1:u<10
 ·rw[if_pos (by omega)]
  apply bytes_ext
  rw[bytes_app]
  rw[decDigits_small h1]at h
  unfold decB digB
  rw[Nat.mod_eq_of_lt h1]
  exact h
 ·rw[if_neg (by omega),bytes_app]
  rw[decDigits_big h1]at h
  rw[←List.append_assoc]
  exact h
theorem behind_size {U u:Nat} {out:ByteArray} (h:Behind U u out) (hU:U≤9223372036854775807):out.size≤21:=by
 have h1:=Lib.itoa_length_le (U:Int) (by omega) (by omega)
 rw[itoa_pos (by omega)]at h1
 have h1:(Lib.decDigits U).length≤21:=h1
 have h2:out.data.toList.length=out.size:=Array.length_toList
 unfold Behind at h
 split at h
 ·rw[h]at h2
  have h3:(decB U).data.toList.length=(Lib.decDigits U).length:=rfl
  rw[h];omega
 ·rw[←h,List.length_append]at h1;omega
set_option maxHeartbeats 1000000 in
set_option maxRecDepth 100000 in
theorem rtext_any (n:Int) (w:World) (h0 : -2147483648≤n) (h1:n≤2147483647) :
  Calls Tryz.prog 95 #[.int .i32 n] w fun e w'=>e=.returned (.string ⟨(Lib.itoa n).toArray⟩)∧w=w':=by
 obtain⟨U,hU⟩:∃ U:Nat,n.natAbs=U:=⟨_,rfl⟩
 have hUl:U≤2147483648:=by omega
 by_cases hn:n<0
 ·obtain rfl:n=-(U:Int):=by omega
  have HT:=Lib.hid (show (⟨#[45]⟩:ByteArray)++decB U=⟨(Lib.itoa (-(U:Int))).toArray⟩ from by
   apply bytes_ext
   rw[bytes_app]
   unfold decB
   rw[itoa_neg hn,hU];rfl)
  clear hU
  go_enter Tryz.func95,Tryz.ntmps95
  go_wp2_with fail
  go_loop [3,6] (fun x o=>∃ (u:Nat) (out:ByteArray),u≤2147483648∧x=.int .i64 u∧o=.string out∧Behind U u out) (fun x _=>(intOf x).toNat)
  case atStart=>exact⟨U / 10,_,by omega,by simp,rfl,by rw[digit_at _ (by omega)];exact behind_first U⟩
  case round =>
   obtain⟨u,out,hu,rfl,rfl,hB⟩:=hrel
   have hz:=behind_size hB (by omega)
   have HB:=Lib.hid hB
   clear hB
   by_cases hlt:0<u
   ·have hn:=behind_next HB.out (by omega)
    rw[←digit_at _ (by omega)]at hn
    have HN:=Lib.hid hn
    clear hn
    go_wp2
    go_round
    case rel=>exact⟨u / 10,_,by omega,by simp,rfl,HN.out⟩
    case measure=>simp[intOf];omega
   ·obtain rfl:0=u:=by omega
    obtain rfl:out=decB U:=by have:=HB.out;unfold Behind at this;rwa [if_pos rfl]at this
    go_wp2
    try rw[HT.out]
    go_ret
    exact⟨rfl,rfl⟩
 ·obtain rfl:n=(U:Int):=by omega
  have HT:=Lib.hid (show (⟨#[]⟩:ByteArray)++decB U=⟨(Lib.itoa (U:Int)).toArray⟩ from by
   apply bytes_ext
   rw[bytes_app]
   unfold decB
   rw[itoa_pos hn];rfl)
  clear hU
  go_enter Tryz.func95,Tryz.ntmps95
  go_wp2_with fail
  go_loop [3,6] (fun x o=>∃ (u:Nat) (out:ByteArray),u≤2147483648∧x=.int .i64 u∧o=.string out∧Behind U u out) (fun x _=>(intOf x).toNat)
  case atStart=>exact⟨U / 10,_,by omega,by simp,rfl,by rw[digit_at _ (by omega)];exact behind_first U⟩
  case round =>
   obtain⟨u,out,hu,rfl,rfl,hB⟩:=hrel
   have hz:=behind_size hB (by omega)
   have HB:=Lib.hid hB
   clear hB
   by_cases hlt:0<u
   ·have hn:=behind_next HB.out (by omega)
    rw[←digit_at _ (by omega)]at hn
    have HN:=Lib.hid hn
    clear hn
    go_wp2
    go_round
    case rel=>exact⟨u / 10,_,by omega,by simp,rfl,HN.out⟩
    case measure=>simp[intOf];omega
   ·obtain rfl:0=u:=by omega
    obtain rfl:out=decB U:=by have:=HB.out;unfold Behind at this;rwa [if_pos rfl]at this
    go_wp2
    try rw[HT.out]
    go_ret
    exact⟨rfl,rfl⟩
abbrev Bs:=List UInt8
structure DIns where
 op:Int
 dst:Int
 two:Int
 args:List Int
 imm:Int
structure DPhi where
 dst:Int
 ins:List (Int × Int)
structure DTerm where
 kd:Int
 ar:List Int
 tg:List Int
 im:Int
structure DBlk where
 phis:List DPhi
 ins:List DIns
 term:DTerm
structure DFn where
 params:Int
 blocks:List DBlk
def dS (n:Int):Bs:=32::Lib.itoa n
def allS (l:List Int):Bs:=l.flatMap dS
def opS (op:Int):Bs:=(nameF op).data.toList
def insS (x:DIns):Bs:=
 if x.op=1 then opS x.op++(dS x.dst++dS x.imm)
 else if 2≤x.op∧x.op≤14 then opS x.op++(dS x.dst++allS x.args)
 else if x.op=15 then opS x.op++(dS x.dst++(allS x.args++dS x.imm))
 else if x.op=16 then opS x.op++(allS x.args++dS x.imm)
 else if x.op=17 then opS x.op++(dS x.dst++(dS x.imm++allS x.args))
 else if x.op=18 then opS x.op++(dS x.dst++(dS x.two++allS x.args))
 else [63]
def termNames:List ByteArray:=[⟨#[106,117,109,112]⟩,⟨#[98,114,97,110,99,104]⟩,⟨#[115,119,105,116,99,104]⟩,⟨#[114,101,116]⟩,⟨#[116,114,97,112]⟩]
def termB (k:Int):ByteArray:=if k<1∨5<k then ⟨#[63]⟩ else termNames.getD (k-1).toNat ByteArray.empty
def termS (t:DTerm):Bs:=
 if t.kd<1∨5<t.kd then [63]
 else if t.kd=5 then (termB t.kd).data.toList++dS t.im
 else (termB t.kd).data.toList++(allS t.ar++allS t.tg)
def pairS (x:Int × Int):Bs:=dS x.1++58::Lib.itoa x.2
def phiS (p:DPhi):Bs:=[112,104,105]++(dS p.dst++p.ins.flatMap pairS)
def bodyS (x:DBlk):Bs:=x.phis.flatMap (fun p=>phiS p++[10])++(x.ins.flatMap (fun i=>insS i++[10])++(termS x.term++[10]))
def blkS (b:Nat) (x:DBlk):Bs:=[98,108,111,99,107]++(dS b++10::bodyS x)
def blkAt (l:List DBlk) (b:Nat):Bs:=match l[b]? with | some x=>blkS b x | none=>[]
def blksS (l:List DBlk) (n:Nat):Bs:=(List.range n).flatMap (blkAt l)
def funcS (f:DFn):Bs:=[102,117,110,99]++(dS f.params++10::blksS f.blocks f.blocks.length)
structure DTile where
 pat:Int
 cost:Int
def patNames:List ByteArray:=[⟨#[108,105]⟩,⟨#[108,105,119]⟩,⟨#[97,100,100]⟩,⟨#[115,117,98]⟩,⟨#[109,117,108]⟩,⟨#[97,110,100]⟩,⟨#[111,114]⟩,⟨#[120,111,114]⟩,⟨#[115,104,108]⟩,⟨#[115,104,114]⟩,⟨#[115,97,114]⟩,⟨#[101,113]⟩,⟨#[108,116]⟩,⟨#[108,116,117]⟩,⟨#[100,105,118]⟩,⟨#[97,100,100,105]⟩,⟨#[115,117,98,105]⟩,⟨#[97,110,100,105]⟩,⟨#[115,104,108,105]⟩,⟨#[115,104,114,105]⟩,⟨#[115,97,114,105]⟩,⟨#[109,97,100,100]⟩,⟨#[108,100]⟩,⟨#[108,100,97]⟩,⟨#[108,100,120]⟩,⟨#[108,100,108]⟩,⟨#[115,116]⟩,⟨#[115,116,97]⟩,⟨#[115,116,120]⟩,⟨#[115,116,108]⟩,⟨#[99,97,108,108]⟩,⟨#[109,117,108,119]⟩,⟨#[98,110,122]⟩,⟨#[98,101,113]⟩,⟨#[98,108,116]⟩,⟨#[98,108,116,117]⟩,⟨#[106,116]⟩]
def patB (p:Int):ByteArray:=if p<1∨37<p then ByteArray.empty else patNames.getD (p-1).toNat ByteArray.empty
def patS (p:Int):Bs:=if p<1∨37<p then [63] else (patB p).data.toList
def tileS (t:DTile):Bs:=[116,105,108,101]++(32::patS t.pat++(dS t.cost++[10]))
def tilesS (l:List DTile):Bs:=l.flatMap tileS
def spl (c:UInt8):Bs→List Bs
 | []=>[[]]
 | x::r=>if x=c then []::spl c r else match spl c r with | []=>[[x]] | h::t=>(x::h)::t
def ahead (c:UInt8) (l:Bs):Bs:=l.takeWhile (fun x=>x != c)
def isSep (x:UInt8):Bool:=x==32||x==9
def fldGo:Bs→Bs→List Bs
 | cur,[]=>if cur=[] then [] else [cur]
 | cur,x::r=>if isSep x then (if cur=[] then fldGo [] r else cur::fldGo [] r) else fldGo (cur++[x]) r
def wordsOf (l:Bs):List ByteArray:=(fldGo [] (ahead 35 l)).map fun x=>⟨x.toArray⟩
def linesOf (s:Bs):List (List ByteArray):=(spl 10 s).map wordsOf
def numW (w:ByteArray):Int:=(wparse w.data.toList).getD 0
def isNum (w:ByteArray):Bool:=(wparse w.data.toList).isSome
def numsW (l:List ByteArray):List Int:=l.map numW
def areNums (l:List ByteArray):Bool:=l.all isNum
def kindF (w:ByteArray):Int:=1+Lib.idxOfS termNames w
def wFunc:ByteArray:=⟨#[102,117,110,99]⟩
def wBlock:ByteArray:=⟨#[98,108,111,99,107]⟩
def wPhi:ByteArray:=⟨#[112,104,105]⟩
def wTile:ByteArray:=⟨#[116,105,108,101]⟩
structure PSt where
 params:Int
 blocks:List DBlk
 pl:Int
def onLast (s:PSt) (g:DBlk→DBlk):List DBlk:=s.blocks.modify (s.blocks.length-1) g
def colons (w:ByteArray):Nat:=w.data.toList.count 58
def front (w:ByteArray):ByteArray:=⟨(ahead 58 w.data.toList).toArray⟩
def behind (w:ByteArray):ByteArray:=⟨(w.data.toList.drop ((ahead 58 w.data.toList).length+1)).toArray⟩
def pairW (w:ByteArray):Int × Int:=(numW (front w),numW (behind w))
def isPair (w:ByteArray):Bool:=isNum (front w)&&isNum (behind w)
def phiSt (s:PSt) (l:List ByteArray):Except Int PSt:=
 match l with
 | []=>.error 70
 | d::r =>
  if r.all (fun w=>colons w==1) then
   (if isNum d&&r.all isPair then .ok ⟨s.params,onLast s (fun b=>⟨b.phis++[⟨numW d,r.map pairW⟩],b.ins,b.term⟩),s.pl⟩ else .error 71)
  else .error 70
def least (op:Int):Nat:=if op=1 then 2 else if op=17 then 2 else if op=18 then 4 else 3
def most (op:Int):Nat:=if op=1 then 2 else if op=17 then 6 else if op=18 then 4 else 3
def insOf (op:Int) (n:List Int):DIns:=
 if op=1 then ⟨op,n.getD 0 0,0,[],n.getD 1 0⟩
 else if op=15 then ⟨op,n.getD 0 0,0,(n.drop 1).take 1,n.getD 2 0⟩
 else if op=16 then ⟨op,0,0,n.take 2,n.getD 2 0⟩
 else if op=17 then ⟨op,n.getD 0 0,0,n.drop 2,n.getD 1 0⟩
 else if op=18 then ⟨op,n.getD 0 0,n.getD 1 0,n.drop 2,0⟩
 else ⟨op,n.getD 0 0,0,n.drop 1,0⟩
def insSt (s:PSt) (op:Int) (l:List ByteArray):Except Int PSt:=
 if least op≤l.length∧l.length≤most op then
  (if areNums l then .ok ⟨s.params,onLast s (fun b=>⟨b.phis,b.ins++[insOf op (numsW l)],b.term⟩),3⟩ else .error 71)
 else .error 70
def tleast (k:Int):Nat:=if k=1 then 1 else if k=2 then 3 else if k=3 then 2 else if k=4 then 0 else 1
def tmost (k:Int) (n:Nat):Nat:=if k=1 then 1 else if k=2 then 3 else if k=3 then n else 1
def termOf (k:Int) (n:List Int):DTerm:=
 if k=1 then ⟨k,[],n,0⟩ else if k=4 then ⟨k,n,[],0⟩ else if k=5 then ⟨k,[],[],n.getD 0 0⟩ else ⟨k,n.take 1,n.drop 1,0⟩
def termSt (s:PSt) (k:Int) (l:List ByteArray):Except Int PSt:=
 if tleast k≤l.length∧l.length≤tmost k l.length then
  (if areNums l then .ok ⟨s.params,onLast s (fun b=>⟨b.phis,b.ins,termOf k (numsW l)⟩),1⟩ else .error 71)
 else .error 70
def zeroBlk:DBlk:=⟨[],[],⟨0,[],[],0⟩⟩
def stepSt (s:PSt) (l:List ByteArray):Except Int PSt:=
 match l with
 | []=>.ok s
 | w::r =>
  if w=wFunc then
   (if s.pl=0∧r.length=1 then (if areNums r then .ok ⟨(numsW r).getD 0 0,s.blocks,1⟩ else .error 71) else .error 70)
  else if w=wBlock then
   (if s.pl=1∧r.length=1 then (if areNums r then (if (numsW r).getD 0 0=s.blocks.length then .ok ⟨s.params,s.blocks++[zeroBlk],2⟩ else .error 70) else .error 71) else .error 70)
  else if w=wPhi then (if s.pl=2 then phiSt s r else .error 70)
  else if 0<numberF w then (if 2≤s.pl then insSt s (numberF w) r else .error 70)
  else if 0<kindF w then (if 2≤s.pl then termSt s (kindF w) r else .error 70)
  else .error 72
def goSt {σ:Type} (step:σ→List ByteArray→Except Int σ):Nat→σ→List (List ByteArray)→Except (Int × Int) σ
 | _,s,[]=>.ok s
 | i,s,l::r=>if l=[] then goSt step (i+1) s r else match step s l with
  | .error e=>.error (i+1,e)
  | .ok t=>goSt step (i+1) t r
structure PRes where
 f:DFn
 line:Int
 e:Int
def parseS (s:Bs):PRes:=
 match goSt stepSt 0 ⟨0,[],0⟩ (linesOf s) with
 | .error x=>⟨⟨0,[]⟩,x.1,x.2⟩
 | .ok t=>if t.pl=1∧t.blocks≠[] then ⟨⟨t.params,t.blocks⟩,0,0⟩ else ⟨⟨0,[]⟩,((linesOf s).length:Int),70⟩
def patF (w:ByteArray):Int:=1+Lib.idxOfS patNames w
def tileSt (s:List DTile) (l:List ByteArray):Except Int (List DTile):=
 match l with
 | []=>.ok s
 | w::r =>
  if w=wTile then
   (if r.length=2 then
    (if 0<patF (r.getD 0 ByteArray.empty) then
     (if isNum (r.getD 1 ByteArray.empty) then .ok (s++[⟨patF (r.getD 0 ByteArray.empty),numW (r.getD 1 ByteArray.empty)⟩]) else .error 71)
    else .error 72)
   else .error 70)
  else .error 72
structure TRes where
 l:List DTile
 line:Int
 e:Int
def parseT (s:Bs):TRes:=
 match goSt tileSt 0 [] (linesOf s) with
 | .error x=>⟨[],x.1,x.2⟩
 | .ok t=>⟨t,0,0⟩
example:(parseS [102,117,110,99,32,50,10,98,108,111,99,107,32,48,10,97,100,100,32,50,32,48,32,49,10,114,101,116,32,50,10]).e=0:=by decide +kernel
end Go.Proofs.YtmhojfpidedjeaaGreatDoor
