import Derived.Test.YtmhojfpidedjeaaGreatDoorRows
import Derived.WalkKit
import Derived.WalkSpells
import Derived.WalkLawsBesides
import Derived.Lib.Hide
import Derived.Laws.AppendOwnNone
import Derived.RegionTactic
import Derived.Deep.Slices
import Derived.WideShapes
import Derived.Shelf.Strings.BuilderK
namespace Go.Proofs.YtmhojfpidedjeaaGreatDoor
open Go.RowKit
theorem zN (a b:Int) (h:a≠b:=by omega):(a==b)=false:=beq_eq_false_iff_ne.2 h
theorem zH (p:Prop) (h:p):Hid p:=h
def Since (w0 w:World):Prop:=Below w0.heap.size w0 w
theorem Since.refl (w:World):Since w w:=Below.refl _ _
theorem Since.trans {a b c:World} (h:Since a b) (k:Since b c):Since a c:=Below.trans h (Below.mono k h.size)
theorem Since.size {a b:World} (h:Since a b):a.heap.size≤b.heap.size:=Below.size h
theorem Since.alloc {a b:World} (h:Since a b) (o:Obj):Since a (b.alloc o):=Below.alloc h h.size o
theorem Since.drew {a b:World} (h:Since a b):Since a b.drew:=Below.drew h
theorem Since.cell {a b:World} (h:Since a b) {p : Addr} (hp:p.block<a.heap.size):b.cell? p=a.cell? p:=Below.cell h hp
def ZN (k:IntKind) (w:World) (v:Value) (l:List Int):Prop:=
 (∃ a,v=.slice a 0 0∧l=[]) ∨
 ∃ b off cap,v=.slice (some ⟨b,off,none⟩) l.length cap∧l.length≤cap∧cap≤maxLen∧b<w.heap.size∧∀ (j:Nat) (n:Int),l[j]? = some n→w.cell? ⟨b,off+j,none⟩=some (.int k n)
abbrev Zm:=ZN .i64
theorem ZN.nil (k:IntKind) (w:World):ZN k w (.slice none 0 0) []:=.inl ⟨_,rfl,rfl⟩
theorem ZN.keep {k : IntKind} {w w':World} {v : Value} {l : List Int} (h:ZN k w v l) (s:Since w w'):ZN k w' v l:=by
 rcases h with h|⟨b,off,cap,h1,h2,h3,h4,h5⟩
 ·exact .inl h
 ·exact .inr ⟨b,off,cap,h1,h2,h3,Nat.lt_of_lt_of_le h4 s.size,fun j n hj=>by rw[s.cell h4];exact h5 j n hj⟩
theorem ZN.len {k : IntKind} {w : World} {v : Value} {l : List Int} (h:ZN k w v l):l.length≤maxLen:=by
 rcases h with ⟨_,_,h⟩|⟨_,_,_,_,h2,h3,_⟩
 ·rw[h];exact Nat.zero_le _
 ·omega
theorem XT {k : IntKind} {w : World} {b : Nat} (l:List Int) (t:TypeId) (cap:Nat) (hc:l.length≤cap) (hm:cap≤maxLen) {cs:List Value} (hb:w.heap[b]? = some (.cells cs.toArray t (0,0)))
  (ha:∀ (j:Nat) (n:Int),l[j]? = some n→cs[j]? = some (Value.int k n)):ZN k w (.slice (some ⟨b,0,none⟩) l.length cap) l:=by
 refine .inr ⟨b,0,cap,rfl,hc,hm,(Array.getElem?_eq_some_iff.1 hb).1,fun j n hj=>?_⟩;simp[World.cell?,hb,ha j n hj]
theorem XI {k : IntKind} {w : World} {base:Nat} {e : TypeId} {v : Value} {l : List Int} (h:w.ownsRow base e 1 v l.length (l.map (Value.int k))):ZN k w v l:=by
 obtain⟨_,⟨hv,hn⟩|⟨g,cap,cur,hv,_,hg,hc,hm,hs,ha⟩⟩:=h
 ·refine .inl ⟨_,hv,?_⟩;exact List.length_eq_zero_iff.1 hn
 ·subst hv;refine XT (cs:=cur.toList) l e cap hc hm (by simpa using hg) fun j n hj=>?_
  have hb:j<l.length:=(List.getElem?_eq_some_iff.1 hj).1;have:=congrArg (fun x=>x[j]?) ha;simp only[Nat.mul_one,List.getElem?_map,hj,Option.map_some]at this
  rwa [List.getElem?_take_of_lt hb]at this
theorem V8 (w:World) (base:Nat) (e:TypeId) (k:IntKind):w.ownsRow base e 1 (.slice none 0 0) ([]:List Int).length (([]:List Int).map (Value.int k)):=⟨rfl,.inl ⟨rfl,rfl⟩⟩
structure Kl where
 op:Int
 d:Int
 e:Int
 a:Int
 b:Int
 c:Int
 imm:Int
 args:List Int
def mv (m:Kl) (av:Value):Value:=.agg #[.int .i64 m.op,.int .i64 m.d,.int .i64 m.e,.int .i64 m.a,.int .i64 m.b,.int .i64 m.c,.int .i32 m.imm,av]
def ZdK (w:World) (l:List Int) (e:Ending) (w':World):Prop:=∃ v,e=.returned v∧Zm w' v l∧Since w w'
theorem Z2 (w:World) (o:Obj):(w.alloc o).heap[w.heap.size]? = some o:=(MapKept.heap_alloc w o).1
theorem QD {w0 w:World} (s:Since w0 w) {b n:Nat} (l:List Int) (t:TypeId) {cs:Array Value} (hb:b=w.heap.size) (hn:n=l.length) (hm:l.length≤maxLen) (ha:cs=(l.map (Value.int .i64)).toArray) :
  ZdK w0 l (.returned (.slice (some ⟨b,0,none⟩) n n)) (w.alloc (.cells cs t)):=by
 subst hb;subst hn;subst ha;refine⟨_,rfl,XT l t _ (Nat.le_refl _) hm (Z2 _ _) ?_,s.alloc _⟩;intro j n hj;simp[hj]
theorem Zdt {w0 w:World} (s:Since w0 w):ZdK w0 [] (.returned (.slice none 0 0)) w:=⟨_,rfl,.nil _ _,s⟩
def putAll:List Oper→Nat→(Nat→Value)→Act→Act
 | [],_,_,a=>a
 | o::r,k,vs,a=>putAll r (k+1) vs (a.put o.dst (vs k))
def ZR:List Oper→Bool
 | []=>true
 | o::r=>(r.all fun p=>match o.dst,p.dst with | some d,some e=>d != e | _,_=>true)&&ZR r
theorem QN {o : Oper} {r : List Oper} (h:ZR (o::r)=true):(∀ p∈r,∀ d,o.dst=some d→p.dst≠some d)∧ZR r=true:=by
 unfold ZR at h;rw[Bool.and_eq_true,List.all_eq_true]at h;refine⟨fun p hp d hd hc=>?_,h.2⟩;have:=h.1 p hp;rw[hd,hc]at this;simp at this
theorem Qu (dst:Option Tmp) (v:Value):∀ (l:List Oper) (k:Nat) (vs:Nat→Value) (a:Act),(∀ p∈l,∀ d,dst=some d→p.dst≠some d)→(putAll l k vs a).put dst v=putAll l k vs (a.put dst v)
 | [],_,_,_,_=>rfl
 | o::r,k,vs,a,h=>by
  show (putAll r (k+1) vs (a.put o.dst (vs k))).put dst v=putAll r (k+1) vs ((a.put dst v).put o.dst (vs k))
  rw[Qu dst v r (k+1) vs _ (fun p hp=>h p (List.mem_cons_of_mem _ hp)),Act.put_comm a v (vs k) (h o List.mem_cons_self)]
theorem JU:∀ (l:List Oper) (k:Nat) (vs vs':Nat→Value) (a:Act),(∀ j,k≤j→vs j=vs' j)→putAll l k vs a=putAll l k vs' a
 | [],_,_,_,_,_=>rfl
 | o::r,k,vs,vs',a,h=>by
  show putAll r (k+1) vs _=putAll r (k+1) vs' _
  rw[h k (Nat.le_refl _)]
  exact JU r (k+1) vs vs' _ fun j hj=>h j (by omega)
theorem ZfX (a:Act) (x:Option Tmp) (v u:Value):(a.put x v).put x u=a.put x u:=by
 cases x with
 | none=>rfl
 | some d=>simp[Act.put,Array.setIfInBounds_setIfInBounds]
def upd (vs:Nat→Value) (i:Nat) (v:Value):Nat→Value:=fun j=>if j=i then v else vs j
theorem Wh (vs:Nat→Value) (i:Nat) (v:Value):upd vs i v i=v:=if_pos rfl
theorem Xb (vs:Nat→Value) {i j:Nat} (v:Value) (h:j≠i):upd vs i v j=vs j:=if_neg h
theorem Xw (v:Value):∀ (l:List Oper) (k:Nat) (vs:Nat→Value) (a:Act) (i:Nat) (o:Oper),l[i]? = some o→ZR l=true→putAll l k (upd vs (k+i) v) a=(putAll l k vs a).put o.dst v
 | [],_,_,_,_,_,h,_=>by cases h
 | p::r,k,vs,a,0,o,h,hd=>by
  obtain rfl:p=o:=by simpa using h
  show putAll r (k+1) (upd vs (k+0) v) (a.put p.dst (upd vs (k+0) v k))=(putAll r (k+1) vs (a.put p.dst (vs k))).put p.dst v
  rw[Qu p.dst v r (k+1) vs _ (QN hd).1,ZfX]
  simp only[Nat.add_zero,Wh]
  exact JU r (k+1) _ _ _ fun j hj=>Xb _ _ (by omega)
 | p::r,k,vs,a,i+1,o,h,hd=>by
  have hr:r[i]? = some o:=by simpa using h
  show putAll r (k+1) (upd vs (k+(i+1)) v) (a.put p.dst (upd vs (k+(i+1)) v k))=(putAll r (k+1) vs (a.put p.dst (vs k))).put o.dst v
  rw[Xb _ _ (by omega:k≠k+(i+1)),show k+(i+1)=k+1+i from by omega]
  exact Xw v r (k+1) vs _ i o hr (QN hd).2
theorem Zy (a:Act) (d:Tmp):a.put (some d) (a.tmps.getD d undef)=a:=by
 have:a.tmps.setIfInBounds d (a.tmps.getD d undef)=a.tmps:=by
  apply Array.ext_getElem?
  intro j;rw[Array.getElem?_setIfInBounds];by_cases h:d=j
  ·subst h;by_cases hd:d<a.tmps.size
   ·simp[hd]
   ·simp[hd]
  ·simp[h]
 simp only[Act.put,this]
def YA (l:List Oper) (a:Act):Nat→Value:=fun i=>match (l[i]?).bind (·.dst) with | some d=>a.tmps.getD d undef | none=>undef
theorem Xc (old:Nat→Value) (a:Act):∀ (l:List Oper) (k:Nat),(∀ (i:Nat) (o:Oper) (d:Tmp),l[i]? = some o→o.dst=some d→old (k+i)=a.tmps.getD d undef)→putAll l k old a=a
 | [],_,_=>rfl
 | o::r,k,h=>by
  show putAll r (k+1) old (a.put o.dst (old k))=a
  have e:a.put o.dst (old k)=a:=by
   cases ho:o.dst with
   | none=>rfl
   | some d=>rw[show old k=a.tmps.getD d undef from h 0 o d rfl ho];exact Zy a d
  rw[e];exact Xc old a r (k+1) fun i p d hi hd=>by rw[show k+1+i=k+(i+1) from by omega];exact h (i+1) p d (by simpa using hi) hd
def ZU:List Oper→Nat→Bool
 | [],_=>true
 | o::r,k=>(o.after.all fun e=>!Region.binds .any e||decide (e.on<k))&&ZU r (k+1)
theorem Z8:∀ (l:List Oper) (k:Nat),ZU l k=true→∀ (i:Nat) (o:Oper),l[i]? = some o→∀ e∈o.after,Region.binds .any e=true→e.on<k+i
 | [],_,_,_,_,h=>by cases h
 | p::r,k,hb,i,o,h=>by
  unfold ZU at hb
  rw[Bool.and_eq_true]at hb
  cases i with
  | zero =>
   obtain rfl:p=o:=by simpa using h
   intro e he ha
   have:=(Array.all_eq_true_iff_forall_mem.1 hb.1) e he
   rw[ha]at this
   simpa using this
  | succ i =>
   intro e he ha
   have:=Z8 r (k+1) hb.2 i o (by simpa using h) e he ha
   omega
def Zh (F:Nat→Value→World→Prop) (vs:Nat→Value) (w:World):List Edge→Prop
 | []=>True
 | e::r=>(match e.ground with | .textOnly _=>True | .gcOnly _=>True | _=>F e.on (vs e.on) w)∧Zh F vs w r
theorem Wk (F:Nat→Value→World→Prop) (vs:Nat→Value) (w:World):∀ (l:List Edge),(∀ e∈l,Region.binds .any e=true→F e.on (vs e.on) w)→Zh F vs w l
 | [],_=>trivial
 | e::r,h=>by
  refine⟨?_,Wk F vs w r fun x hx=>h x (List.mem_cons_of_mem _ hx)⟩
  have:=h e List.mem_cons_self
  unfold Region.binds at this
  revert this
  cases e.ground<;>intro this<;>first | trivial | exact this rfl
def Zc (F:Nat→Value→World→Prop) (vs:Nat→Value) (w:World):Nat→Nat→Prop
 | _,0=>True
 | k,n+1=>F k (vs k) w∧Zc F vs w (k+1) n
theorem Xj (F:Nat→Value→World→Prop) (vs:Nat→Value) (w:World):∀ (n k:Nat),(∀ i,k≤i→i<k+n→F i (vs i) w)→Zc F vs w k n
 | 0,_,_=>trivial
 | n+1,k,h=>⟨h k (Nat.le_refl _) (by omega),Xj F vs w n (k+1) fun i h1 h2=>h i (by omega) (by omega)⟩
def Zg6 (F:Nat→Value→World→Prop) (i:Nat) (dst:Option Tmp) (a:Act) (w:World) (a':Act) (w':World):Prop:=∃ v,a'=a.put dst v∧F i v w'∧Since w w'
def ZhE (Q:Exit→Act→World→Prop) (F:Nat→Value→World→Prop) (i:Nat) (dst:Option Tmp) (a:Act) (w:World):Exit→Act→World→Prop
 | .normal,a',w'=>Zg6 F i dst a w a' w'
 | e,a',w'=>Q e a' w'
theorem Oper.wp_turn {P : Program} {o : Oper} {a : Act} {w : World} {K : Act→World→Prop} {Q Q':Exit→Act→World→Prop} (h1:∀ c a w,Q' (.panic c) a w→Q (.panic c) a w) (h2:LetsOut Q'→LetsOut Q)
  (hh:o.wp P a w K Q'):o.wp P a w K Q:=by
 unfold Oper.wp at *;generalize (execOp a.eval o).run P w=r at *
 cases r with
 | ok n w' =>
  cases n<;>simp only[Oper.upon]at hh ⊢ <;>
   first
    | exact hh
    | exact Calls.mono hh (fun e w'' he=>by cases e<;>first | exact he | exact h1 _ _ _ he | exact h2 he)
 | halt x w'=>cases x<;>simp only[Oper.upon]at hh ⊢<;>first | exact hh | exact h1 _ _ _ hh
def Kh (P:Program) (all:Array Oper) (Q:Exit→Act→World→Prop) (F:Nat→Value→World→Prop) (a0:Act) (w0:World):List Oper→Nat→Prop
 | [],_=>True
 | o::r,k=>(∀ (vs:Nat→Value) (w:World),Since w0 w→Zh F vs w o.after.toList →
   wpList P all (ZhE Q F k o.dst (putAll all.toList 0 vs a0) w) [o] (putAll all.toList 0 vs a0) w)∧Kh P all Q F a0 w0 r (k+1)
theorem Zbm {P : Program} {all:Array Oper} {Q : Exit→Act→World→Prop} {F : Nat→Value→World→Prop} {a0:Act} {w0:World}:∀ (l:List Oper) (k:Nat),Kh P all Q F a0 w0 l k→∀ (i:Nat) (o:Oper),l[i]? = some o→all[k+i]? = some o →
  ∀ (vs:Nat→Value) (w:World),Since w0 w→Zh F vs w o.after.toList→∀ K:Act→World→Prop,(∀ a' w',Zg6 F (k+i) o.dst (putAll all.toList 0 vs a0) w a' w'→K a' w') →
   wpOp P all Q (k+i) K (putAll all.toList 0 vs a0) w
 | [],_,_,_,_,h,_=>by cases h
 | p::r,k,h,0,o,ho,hall=>by
  obtain rfl:p=o:=by simpa using ho
  intro vs w hw hk K hK
  have:=h.1 vs w hw hk
  unfold wpOp
  rw[hall]
  simp only[wpList]at this
  show if _ then _ else _
  split
  ·rename_i hwant
   rw[if_pos hwant]at this
   rcases this with this|⟨h1,h2⟩
   ·exact .inl (Oper.wp_turn (fun _ _ _ h=>h) (fun h=>h) (Oper.wp_mono (fun a' w' h=>hK a' w' h) this))
   ·exact .inr ⟨h1,h2⟩
  ·rename_i hwant
   rw[if_neg hwant]at this
   exact hK _ _ this
 | p::r,k,h,i+1,o,ho,hall=>by
  have:=Zbm r (k+1) h.2 i o (by simpa using ho) (by rw[show k+1+i=k+(i+1) from by omega];exact hall)
  rw[show k+1+i=k+(i+1) from by omega]at this
  exact this
section
variable {P : Program} {Q : Exit→Act→World→Prop} {l : List Oper} {F : Nat→Value→World→Prop} {a0:Act} {w0:World}
theorem Zez (hF:∀ i v w w',F i v w→Since w w'→F i v w') (hd:ZR l=true) (hb:ZU l 0=true)
  (hs:Kh P l.toArray Q F a0 w0 l 0)
  (he:∀ vs w,Since w0 w→Zc F vs w 0 l.length→Q .normal (putAll l 0 vs a0) w) :
  ∀ (fuel:Nat) (listed:Array Bool) (vs:Nat→Value) (w:World),listed.size=l.length→((List.range l.length).filter fun i=>!listed.getD i true).length≤fuel→Since w0 w →
   (∀ i,i<l.length→listed.getD i true=true→F i (vs i) w)→wpAny P .any l.toArray Q fuel listed (putAll l 0 vs a0) w:=by
 have hq:∀ (listed:Array Bool) (vs:Nat→Value) (w:World),listed.size=l.length→Region.ready .any l.toArray listed=[]→Since w0 w →
   (∀ i,i<l.length→listed.getD i true=true→F i (vs i) w)→Q .normal (putAll l 0 vs a0) w:=by
  intro listed vs w hc hr hw hk;refine he vs w hw (Xj F vs w _ 0 fun i _ hi=>hk i (by omega) ?_)
  have all:∀ (n i:Nat),i<n→i<l.length→listed.getD i true=true:=by
   intro n;induction n with
   | zero=>intro i h;omega
   | succ n ih =>
    intro i h1 h2
    cases hl:listed.getD i true with
    | true=>rfl
    | false =>
     exfalso
     have:i∈Region.ready .any l.toArray listed:=by
      rw[mem_ready];have ho:l[i]? = some l[i]:=List.getElem?_eq_getElem h2;refine⟨hl,l[i],by simp,fun e hu hD=>?_⟩;have hm:=Z8 l 0 hb i l[i] ho e hu hD;have:=ih e.on (by omega) (by omega);have hg:e.on<listed.size:=by omega
      rw[Array.getD_eq_getD_getElem?,Array.getElem?_eq_getElem hg]at this ⊢;simpa using this
     rw[hr]at this
     cases this
  exact all (i+1) i (by omega) (by omega)
 intro fuel;induction fuel with
 | zero =>
  intro listed vs w hc hn hw hk;have hr:Region.ready .any l.toArray listed=[]:=by
   rw[List.eq_nil_iff_forall_not_mem];intro i hi;rw[mem_ready]at hi;obtain⟨h1,o,ho,_⟩:=hi;have hm:i<l.length:=by simpa using (Array.getElem?_eq_some_iff.1 ho).1
   have:i∈(List.range l.length).filter fun i=>!listed.getD i true:=by
    rw[List.mem_filter];exact⟨List.mem_range.2 hm,by simp[h1]⟩
   have:=List.length_pos_of_mem this;omega
  exact⟨hr,hq listed vs w hc hr hw hk⟩
 | succ fuel ih =>
  intro listed vs w hc hn hw hk;refine⟨fun hr=>hq listed vs w hc hr hw hk,fun i hi=>?_⟩;rw[mem_ready]at hi;obtain⟨h1,o,ho,hA⟩:=hi;have hf:l[i]? = some o:=by simpa using ho
  have hm:i<l.length:=(List.getElem?_eq_some_iff.1 hf).1;have hx:Zh F vs w o.after.toList:=by
   refine Wk F vs w _ fun e hu hp=>?_
   have ht:e∈o.after:=by simpa using hu
   have hG:=Z8 l 0 hb i o hf e ht hp;have hC:e.on<l.length:=by omega
   refine hk e.on hC ?_;have:=hA e ht hp;have hg:e.on<listed.size:=by omega
   rw[Array.getD_eq_getD_getElem?,Array.getElem?_eq_getElem hg]at this ⊢;simpa using this
  have hh:=Zbm l 0 hs i o hf (by simpa using hf) vs w hw hx;rw[Nat.zero_add]at hh;refine hh _ fun a' w' ⟨v,hE,hv,hy⟩=>?_
  subst hE;have e:=Xw v l 0 vs a0 i o hf hd;rw[Nat.zero_add]at e;rw[show l.toArray.toList=l from rfl,←e];refine ih (listed.setIfInBounds i true) (upd vs i v) w' (by simpa using hc) ?_ (hw.trans hy) ?_
  ·have e2:((List.range l.length).filter fun j=>!(listed.setIfInBounds i true).getD j true)=((List.range l.length).filter fun j=>!listed.getD j true).filter fun j=>j != i:=by
    rw[List.filter_filter];refine List.filter_congr fun j hj=>?_
    by_cases ha:j=i
    ·subst ha;have hg:j<listed.size:=by omega
     simp[Array.getD_eq_getD_getElem?,hg]
    ·rw[getD_set_ne _ (Ne.symm ha)];simp[ha]
   rw[e2];have hB:i∈(List.range l.length).filter fun j=>!listed.getD j true:=by
    rw[List.mem_filter];exact⟨List.mem_range.2 hm,by simp[h1]⟩
   have:=(List.length_filter_lt_length_iff_exists (p:=fun j=>j != i) (l:=(List.range l.length).filter fun j=>!listed.getD j true)).2 ⟨i,hB,by simp⟩
   omega
  ·intro j hj hz;by_cases ha:j=i
   ·subst ha;rw[Wh];exact hv
   ·rw[Xb _ _ ha];rw[getD_set_ne _ (Ne.symm ha)]at hz;exact hF _ _ _ _ (hk j hj hz) hy
theorem K9 {id:Nat} (hm:P.follows .mixedOrders=true) (hd:ZR l=true) (hb:ZU l 0=true) (F:Nat→Value→World→Prop) (hF:∀ i v w w',F i v w→Since w w'→F i v w')
  (hs:Kh P l.toArray Q F a0 w0 l 0)
  (he:∀ vs w,Since w0 w→Zc F vs w 0 l.length→Q .normal (putAll l 0 vs a0) w):(Code.region id l.toArray true).wp P Q a0 w0:=by
 refine wp_region_any hm ?_;have e:=Xc (YA l a0) a0 l 0 (fun i o d hi ha=>by simp[YA,hi,ha]);have h:=Zez hF hd hb hs he l.length (Array.replicate l.length false) (YA l a0) { w0 with drawn:=w0.drawn+1 } (by simp) (Nat.le_trans (List.length_filter_le _ _) (by simp)) (Since.refl w0).drew
  (fun i hi hl=>by simp[Array.getD_eq_getD_getElem?,hi]at hl)
 rw[e]at h;simpa using h
end
def Zd:List (Value→World→Prop)→Nat→Value→World→Prop
 | [],_=>fun _ _=>True
 | f::_,0=>f
 | _::r,i+1=>Zd r i
def Z7 (f:Value→World→Prop):Prop:=∀ v w w',f v w→Since w w'→f v w'
def Wt:List (Value→World→Prop)→Prop
 | []=>True
 | f::r=>Z7 f∧Wt r
theorem X9:∀ (l:List (Value→World→Prop)),Wt l→∀ i v w w',Zd l i v w→Since w w'→Zd l i v w'
 | [],_,_,_,_,_,_,_=>trivial
 | _::_,h,0,v,w,w',hv,hs=>h.1 v w w' hv hs
 | _::r,h,i+1,v,w,w',hv,hs=>X9 r h.2 i v w w' hv hs
def Is (x:Value) (v:Value) (_:World):Prop:=v=x
def Any (_:Value) (_:World):Prop:=True
def ZV (k:IntKind) (l:List Int) (v:Value) (w:World):Prop:=ZN k w v l
theorem Is.stable (x:Value):Z7 (Is x):=fun _ _ _ h _=>h
theorem Any.stable:Z7 Any:=fun _ _ _ h _=>h
theorem ZV.stable (k:IntKind) (l:List Int):Z7 (ZV k l):=fun _ _ _ h hs=>ZN.keep h hs
theorem ZG {P : Program} {Q : Exit→Act→World→Prop} {l : List Oper} {a0:Act} {w0:World} {id:Nat} (hm:P.follows .mixedOrders=true) (hd:ZR l=true) (hb:ZU l 0=true) (Fs:List (Value→World→Prop)) (hF:Wt Fs)
  (hs:Kh P l.toArray Q (Zd Fs) a0 w0 l 0)
  (he:∀ vs w,Since w0 w→Zc (Zd Fs) vs w 0 l.length→Q .normal (putAll l 0 vs a0) w):(Code.region id l.toArray true).wp P Q a0 w0:=
 K9 hm hd hb (Zd Fs) (X9 Fs hF) hs he
theorem YP {α:Type} (f:α→List Value) (sz:Nat) (hf:∀ x,(f x).length=sz):∀ (l:List α) (j t:Nat) (x:α),l[j]? = some x→t<sz→(l.flatMap f)[j*sz+t]? = (f x)[t]?
 | [],_,_,_,h,_=>by cases h
 | y::r,0,t,x,h,ht=>by
  obtain rfl:y=x:=by simpa using h
  rw[List.flatMap_cons,List.getElem?_append_left (by rw[hf];omega)]
  simp
 | y::r,j+1,t,x,h,ht=>by
  rw[List.flatMap_cons,List.getElem?_append_right (by rw[hf,Nat.succ_mul];omega),hf,show (j+1)*sz+t-sz=j*sz+t from by rw[Nat.succ_mul];omega]
  exact YP f sz hf r j t x (by simpa using h) ht
theorem Yy {α:Type} (f:α→List Value) (sz:Nat) (hf:∀ x,(f x).length=sz):∀ (l:List α),(l.flatMap f).length=l.length*sz
 | []=>by simp
 | y::r=>by rw[List.flatMap_cons,List.length_append,hf,Yy f sz hf r,List.length_cons,Nat.succ_mul];omega
theorem ZE {w w':World} {base:Nat} {e : TypeId} {size n:Nat} {v : Value} {xs:List Value} (h:w.ownsRow base e size v n xs) (s:Since w w'):w'.ownsRow base e size v n xs:=by
 obtain⟨h0,h|⟨g,cap,cur,h1,h2,h3,h4⟩⟩:=h
 ·exact⟨h0,.inl h⟩
 ·exact⟨h0,.inr ⟨g,cap,cur,h1,h2,(Below.block s g (Array.getElem?_eq_some_iff.1 h3).1).trans h3,h4⟩⟩
def OwnRow {α:Type} (f:α→List Value) (sz:Nat) (e:TypeId) (base:Nat) (w:World) (v:Value) (l:List α):Prop:=w.ownsRow base e sz v l.length (l.flatMap f)
theorem OwnRow.keep {α:Type} {f : α→List Value} {sz:Nat} {e : TypeId} {base:Nat} {w w':World} {v : Value} {l : List α} (h:OwnRow f sz e base w v l) (s:Since w w'):OwnRow f sz e base w' v l:=ZE h s
theorem OwnRow.nil {α:Type} (f:α→List Value) (sz:Nat) (e:TypeId) (base:Nat) (w:World):OwnRow f sz e base w (.slice none 0 0) []:=⟨by simp,.inl ⟨rfl,rfl⟩⟩
theorem OwnRow.shape {α:Type} {f : α→List Value} {sz:Nat} {e : TypeId} {base:Nat} {w : World} {v : Value} {l : List α} (h:OwnRow f sz e base w v l):∃ a cap,v=.slice a l.length cap:=by
 obtain⟨_,⟨hv,hn⟩|⟨g,cap,cur,hv,_⟩⟩:=h
 ·exact⟨none,0,by rw[hv,hn]⟩
 ·exact⟨_,cap,hv⟩
theorem OwnRow.cells {α:Type} {f : α→List Value} {sz:Nat} (hf:∀ x,(f x).length=sz) {e : TypeId} {base:Nat} {w : World} {v : Value} {l : List α} (h:OwnRow f sz e base w v l) :
  (v=.slice none 0 0∧l=[])∨∃ g cap,v=.slice (some ⟨g,0,none⟩) l.length cap∧l.length≤cap∧cap≤maxLen∧base≤g∧g<w.heap.size∧∀ (j t:Nat) (x:α),l[j]? = some x→t<sz→w.cell? ⟨g,j*sz+t,none⟩=(f x)[t]?:=by
 obtain⟨_,⟨hv,hn⟩|⟨g,cap,cur,hv,hb,hg,hc,hm,hs,ha⟩⟩:=h
 ·exact .inl ⟨hv,List.length_eq_zero_iff.1 hn⟩
 ·refine .inr ⟨g,cap,hv,hc,hm,hb,(Array.getElem?_eq_some_iff.1 hg).1,fun j t x hj ht=>?_⟩;have hd:j<l.length:=(List.getElem?_eq_some_iff.1 hj).1;have he:j*sz+t<l.length*sz:=by
   have:(j+1)*sz≤l.length*sz:=Nat.mul_le_mul_right _ hd;rw[Nat.succ_mul]at this;omega
  have e1:=congrArg (fun x=>x[j*sz+t]?) ha;simp only[List.getElem?_take_of_lt he,YP f sz hf l j t x hj ht]at e1;simp only[World.cell?,hg];simpa using e1
def predB (l:List Oper) (j i:Nat):Bool:=match l[i]? with
 | some o=>o.after.toList.any fun e=>e.on==j&&Region.binds .any e
 | none=>false
def XY (l:List Oper):Nat→Nat→Nat→Bool
 | 0,_,_=>false
 | f+1,k,i=>match l[i]? with
  | some o=>o.after.toList.any fun e=>Region.binds .any e&&(e.on==k||XY l f k e.on)
  | none=>false
def WL (l:List Oper) (listed:Array Bool):Prop:=∀ (i:Nat) (o:Oper),l[i]? = some o→listed.getD i false=true→∀ e∈o.after,Region.binds .any e=true→listed.getD e.on false=true
theorem Yw {l : List Oper} {listed:Array Bool} (hc:WL l listed):∀ (f k i:Nat),XY l f k i=true→∀ o,l[i]? = some o→(∀ e∈o.after,Region.binds .any e=true→listed.getD e.on false=true)→listed.getD k false=true
 | 0,_,_,h,_,_,_=>by cases h
 | f+1,k,i,h,o,ho,hp=>by
  unfold XY at h
  rw[ho]at h
  simp only[List.any_eq_true,Bool.and_eq_true,Bool.or_eq_true,beq_iff_eq]at h
  obtain⟨e,he,hb,h|h⟩:=h
  ·subst h;exact hp e (by simpa using he) hb
  ·have hl:=hp e (by simpa using he) hb
   cases ha:l[e.on]? with
   | none =>
    cases f with
    | zero=>cases h
    | succ f=>unfold XY at h;rw[ha]at h;cases h
   | some o2=>exact Yw hc f k e.on h o2 ha (hc e.on o2 ha hl)
section
variable {P : Program} {Q : Exit→Act→World→Prop} {l : List Oper} {F : Nat→Value→World→Prop} {a0:Act} {w0:World} {fixed cons fin:List Bool}
end
def Zb8 (f:Value→World→Prop):Prop:=∀ v w w',f v w→f v w'
theorem Is.fixed (x:Value):Zb8 (Is x):=fun _ _ _ h=>h
open Go.RowKit Go.ChangeShapes Go.WideShapes
set_option linter.unusedVariables false
set_option maxHeartbeats 2000000
set_option maxRecDepth 100000
section
variable {H : Type} {enc:TypeId × Value→H} {P : Program} {w : World} {base:Nat} {held:Bool}
theorem ZaE {a : Addr} {v : Value} (h:w.cell? (a.add 0)=some v):a=⟨a.block,a.off,none⟩:=by
 obtain⟨b,o,s⟩:=a;have h':w.cell? ⟨b,o,s⟩=some v:=by simpa [Addr.add]using h
 have:=World.cell?_spot h';simp at this;simp[this]
theorem Zb3 {b o i:Nat}:(⟨b,o,none⟩:Addr).add i=⟨b,o+i,none⟩:=by
 unfold Addr.add;split
 ·rename_i h;subst h;rfl
 ·rfl
theorem ZcW {a : Addr} {v : Value} (h:w.cell? a=some v):a.block<w.heap.size:=by
 by_cases ha:a.block<w.heap.size
 ·exact ha
 ·exfalso
  unfold World.cell? at h;rw[Array.getElem?_eq_none (by omega)]at h
  cases a.spot<;>simp at h
theorem Zec {t e:TypeId} {k : IntKind} {fuel:Nat} {v : Value} {x : DataW H × List MemPlace} (ht:P.underlying t=some (.slice e)) (he:P.underlying e=some (.int k)) (hc:P.cellsOf e=1)
  (h:DataW.trod enc P w base (fun _=>true) held fuel t [v]=some x):∃ l:List Int,ZN k w v l∧∀ n∈l,(Lit.int k n).wf=true:=by
 rcases Go.Deep.open_slice1 ht hc h with ⟨hv,_⟩|⟨a,len,cap,m,n,V,D,Pl,hv,_,hl,hm,hd,_,hx⟩
 ·exact⟨[],.inl ⟨none,by simpa using hv,rfl⟩,fun n hn=>by cases hn⟩
 ·have hv:v=.slice (some a) len cap:=by simpa using hv
  obtain rfl:m=cap:=by simpa using hd
  have ha:∀ i,i<m→∃ z:Int,V i=.int k z∧(Lit.int k z).wf=true:=fun i hi=>by
   obtain⟨z,h1,_,h2⟩:=DataW.trod_int he (hx i hi).2;exact⟨z,by simpa using h1,h2⟩
  obtain⟨Z,hZ⟩:=Go.Deep.choose_lt ha;by_cases h0:m=0
  ·have hf:len=0:=by omega
   subst hf;subst h0;exact⟨[],.inl ⟨some a,hv,rfl⟩,fun n hn=>by cases hn⟩
  ·have h1:=(hx 0 (by omega)).1;have hs:=ZaE h1;have hb:=ZcW h1;have hh:a.block<w.heap.size:=by
    unfold Addr.add at hb;simpa using hb
   refine⟨(List.range len).map Z,.inr ⟨a.block,a.off,m,?_,by simpa using hl,hm,hh,?_⟩,?_⟩
   ·rw[hv,←hs];simp
   ·intro j z hj;have hg:j<len:=by
     have:=(List.getElem?_eq_some_iff.1 hj).1;simpa using this
    have hz:Z j=z:=by simpa [hg]using hj
    have:=(hx j (by omega)).1;rw[hs,Zb3]at this;rw[this,(hZ j (by omega)).1,hz]
   ·intro z hz;obtain⟨i,hi,rfl⟩:=List.mem_map.1 hz;have:=List.mem_range.1 hi;exact (hZ i (by omega)).2
end
theorem Tryz.cellsInt:Tryz.prog.cellsOf 3=1:=by kernel_rfl
section
variable {H : Type} {enc:TypeId × Value→H} {w : World} {base:Nat} {held:Bool}
theorem ZaW {P : Program} {t : TypeId} {k : IntKind} {fuel:Nat} {v : Value} {x : Option (DataW H × List MemPlace)} (ht:P.underlying t=some (.int k)) (hx:DataW.trod enc P w base (fun _=>true) held fuel t [v]=x) (hs:x.isSome=true) :
  ∃ n,v=.int k n∧(Lit.int k n).wf=true:=by
 obtain⟨y,rfl⟩:=Option.isSome_iff_exists.1 hs;obtain⟨n,h1,_,h2⟩:=DataW.trod_int ht hx;exact⟨n,by simpa using h1,h2⟩
end
def RowIn {α:Type} (f:α→List Value) (sz:Nat) (p:World→α→Prop) (w:World) (v:Value) (l:List α):Prop:=
 (∃ a,v=.slice a 0 0∧l=[])∨∃ b off cap,v=.slice (some ⟨b,off,none⟩) l.length cap∧l.length≤cap∧cap≤maxLen∧b<w.heap.size∧∀ (j:Nat) (x:α),l[j]? = some x→(∀ t,t<sz→w.cell? ⟨b,off+j*sz+t,none⟩=(f x)[t]?)∧p w x
theorem RowIn.keep {α:Type} {f : α→List Value} {sz:Nat} {p : World→α→Prop} (hp:∀ w w' x,p w x→Since w w'→p w' x) {w w':World} {v : Value} {l : List α} (h:RowIn f sz p w v l) (s:Since w w'):RowIn f sz p w' v l:=by
 rcases h with h|⟨b,off,cap,h1,h2,h3,h4,h5⟩
 ·exact .inl h
 ·exact .inr ⟨b,off,cap,h1,h2,h3,Nat.lt_of_lt_of_le h4 s.size,fun j x hj=>⟨fun t ht=>by rw[s.cell (p:=⟨b,off+j*sz+t,none⟩) h4];exact (h5 j x hj).1 t ht,hp _ _ _ (h5 j x hj).2 s⟩⟩
theorem RowIn.shape {α:Type} {f : α→List Value} {sz:Nat} {p : World→α→Prop} {w : World} {v : Value} {l : List α} (h:RowIn f sz p w v l):∃ a cap,v=.slice a l.length cap∧l.length≤maxLen:=by
 rcases h with ⟨a,h1,h2⟩|⟨b,off,cap,h1,h2,h3,_⟩
 ·subst h2;exact⟨a,0,h1,Nat.zero_le _⟩
 ·exact⟨_,cap,h1,by omega⟩
theorem RowIn.at {α:Type} {f : α→List Value} {sz:Nat} {p : World→α→Prop} {w : World} {a : Option Addr} {n cap:Nat} {l : List α} (h:RowIn f sz p w (.slice a n cap) l) {k : Nat} (hk:k<l.length) :
  ∃ b off x,a=some ⟨b,off,none⟩∧b<w.heap.size∧l[k]? = some x∧(∀ t,t<sz→w.cell? ⟨b,off+k*sz+t,none⟩=(f x)[t]?)∧p w x:=by
 rcases h with ⟨_,_,h2⟩|⟨b,off,cap',h1,_,_,h4,h5⟩
 ·subst h2;simp at hk
 ·cases h1
  have hx:l[k]? = some l[k]:=List.getElem?_eq_getElem hk;exact⟨b,off,_,rfl,h4,hx,h5 k _ hx⟩
section
variable {H : Type} {enc:TypeId × Value→H} {P : Program} {w : World} {base:Nat} {held:Bool}
theorem Ze3 {α:Type} [Inhabited α] {f : α→List Value} {sz:Nat} {p : World→α→Prop} {t e:TypeId} {fuel:Nat} {v : Value} {x : DataW H × List MemPlace} (ht:P.underlying t=some (.slice e)) (hc:P.cellsOf e=sz) (he:0<sz) (hf:∀ x,(f x).length=sz)
  (hg:∀ (fuel:Nat) (cs:List Value) (y:DataW H × List MemPlace),DataW.trod enc P w base (fun _=>true) held fuel e cs=some y→∃ x:α,cs=f x∧p w x)
  (h:DataW.trod enc P w base (fun _=>true) held fuel t [v]=some x):∃ l:List α,RowIn f sz p w v l:=by
 rcases Go.Deep.open_slice ht h with ⟨hv,_⟩|⟨a,len,cap,m,n,D,Pl,hv,_,hl,hm,hk,_,hx⟩
 ·exact⟨[],.inl ⟨none,by simpa using hv,rfl⟩⟩
 ·have hv:v=.slice (some a) len cap:=by simpa using hv
  obtain rfl:m=cap:=by simpa using hk
  rw[hc]at hx;have hh:∀ i,i<m→∃ y:α,(∀ t,t<sz→w.cell? ((a.add (i*sz)).add t)=(f y)[t]?)∧p w y:=fun i hi=>by
   obtain⟨cs',h1,h2⟩:=hx i hi;obtain⟨y,rfl,hy⟩:=hg _ _ _ h2;obtain⟨_,_,hd⟩:=World.cells?_some h1;exact⟨y,fun t ht=>hd t ht,hy⟩
  obtain⟨Z,hZ⟩:=Go.Deep.choose_lt hh;by_cases h0:m=0
  ·have hn:len=0:=by omega
   subst hn;subst h0;exact⟨[],.inl ⟨some a,hv,rfl⟩⟩
  ·have h1:=(hZ 0 (by omega)).1 0 he;rw[List.getElem?_eq_getElem (by rw[hf];exact he)]at h1;rw[Nat.zero_mul]at h1;have ha:w.cell? ((a.add 0).add 0)=some _:=h1;have hs:a=⟨a.block,a.off,none⟩:=by
    have:a.add 0=a:=by unfold Addr.add;simp
    rw[this]at ha;exact ZaE ha
   have hb:=ZcW ha;have hp:a.block<w.heap.size:=by
    have e1:((a.add 0).add 0).block=a.block:=by unfold Addr.add;simp
    rwa [e1]at hb
   refine⟨(List.range len).map Z,.inr ⟨a.block,a.off,m,?_,by simpa using hl,hm,hp,?_⟩⟩
   ·rw[hv,←hs];simp
   ·intro j y hj;have ho:j<len:=by
     have:=(List.getElem?_eq_some_iff.1 hj).1;simpa using this
    have hz:Z j=y:=by simpa [ho]using hj
    obtain⟨g1,g2⟩:=hZ j (by omega);rw[hz]at g1 g2;refine⟨fun t ht=>?_,g2⟩;have:=g1 t ht;rw[hs,Zb3,Zb3]at this;exact this
end
def HeapIs (w:World) (q:Nat) (cs:Array Value) (T:TypeId):Prop:=w.heap[q]? = some (.cells cs T (0,0))
theorem HeapIs.cell {w : World} {q : Nat} {cs:Array Value} {T : TypeId} (h:HeapIs w q cs T) (i:Nat):w.cell? ⟨q,i,none⟩=cs[i]?:=by
 simp[World.cell?,show w.heap[q]? = _ from h]
theorem HeapIs.lt {w : World} {q : Nat} {cs:Array Value} {T : TypeId} (h:HeapIs w q cs T):q<w.heap.size:=(Array.getElem?_eq_some_iff.1 h).1
theorem HeapIs.keep {w w':World} {q : Nat} {cs:Array Value} {T : TypeId} (h:HeapIs w q cs T) (s:Since w w'):HeapIs w' q cs T:=(Below.block s q h.lt).trans h
theorem HeapIs.new (w:World) (cs:Array Value) (T:TypeId):HeapIs (w.alloc (.cells cs T)) w.heap.size cs T:=Z2 _ _
theorem HeapIs.set {w : World} {q : Nat} {cs:Array Value} {T : TypeId} (h:HeapIs w q cs T) (i:Nat) (x:Value):HeapIs (w.setCell ⟨q,i,none⟩ x) q (cs.setIfInBounds i x) T:=by
 unfold HeapIs at h ⊢;simp[World.setCell,Array.getElem?_modify,h]
theorem HeapIs.frozen {w : World} {q : Nat} {cs:Array Value} {T : TypeId} (h:HeapIs w q cs T) (i:Nat):w.frozen? ⟨q,i,none⟩=false:=by
 simp[World.frozen?,show w.heap[q]? = _ from h]
abbrev BuF (B b:Nat) (p:Value) (bs:List Value) (w:World):Prop:=Lib.BuilderAtF 67 5 B b p bs w
abbrev Bu (B b:Nat) (l:List UInt8) (w:World):Prop:=Lib.IsBuilderF 67 5 B b (Lib.byteCells l) w
structure Kept (B b:Nat) (w w':World):Prop where
 below:Below B w w'
 others:Lib.OthersKept 5 (some b) w w'
theorem Kept.refl (B b:Nat) (w:World):Kept B b w w:=⟨Below.refl B w,Lib.OthersKept.refl _ _ w⟩
theorem Kept.trans {B b:Nat} {x y z:World} (h:Kept B b x y) (k:Kept B b y z):Kept B b x z:=⟨h.below.trans k.below,h.others.trans k.others⟩
theorem Tryz.infoByte:(Tryz.prog.info? 5).map (fun i=>(i.zero,i.size,i.bytes))=some (some (.int .u8 0),1,1):=by kernel_rfl
theorem Tryz.sizeBuilder:(Tryz.prog.info? 65).map (·.size)=some 2:=by kernel_rfl
theorem Tryz.liesBuilder:liesAt Tryz.prog Tryz.prog.depth 67 (2 / Tryz.prog.cellsOf 67) 0 65 1=true:=by kernel_rfl
theorem Zgt (b:Nat) (w:World) (h0:w.cell? ⟨b,0,none⟩=some (.pointer (some ⟨b,0,none⟩))) :
  Calls Tryz.prog 83 #[.pointer (some ⟨b,0,none⟩)] w fun e w'=>e=.returned (.tuple #[])∧w'=w:=by
 obtain⟨j,hj,_⟩:=Option.map_eq_some_iff.1 Tryz.sizeBuilder;go_enter Tryz.func83,Tryz.ntmps83
 go_wp2
 rw[Lib.run_neq_ptr_same w _ Tryz.underlying62 hj];go_wp2
 go_end0
 exact⟨rfl,rfl⟩
theorem Zfx (b:Nat) (w:World) (h0:w.cell? ⟨b,0,none⟩=some (.pointer none)) (ha:w.shape? b=some (67,2)) (hc:w.frozen? ⟨b,0,none⟩=false) :
  Calls Tryz.prog 83 #[.pointer (some ⟨b,0,none⟩)] w fun e w'=>e=.returned (.tuple #[])∧w'=w.setCell ⟨b,0,none⟩ (.pointer (some ⟨b,0,none⟩)):=by
 obtain⟨j,hj,hb⟩:=Option.map_eq_some_iff.1 Tryz.sizeBuilder;go_enter Tryz.func83,Tryz.ntmps83
 go_wp2
 rw[Lib.run_to_unsafe w ⟨b,0,none⟩ Tryz.underlying62 Tryz.underlying170 hj (by rw[hb];decide) ha (Nat.zero_lt_succ 1)];simp only[Result.andThen];rw[Oper.upon_value];go_wp2
 rw[run_callFunc_extern Tryz.func108 (by kernel_rfl) (by kernel_rfl) (by kernel_rfl) (e:=Extern.AbiNoEscape.same) (by kernel_rfl)];rw[Lib.run_noEscape];simp only[Result.andThen];rw[Oper.upon_value];go_wp2
 rw[Lib.run_from_unsafe w ⟨b,0,none⟩ Tryz.underlying170 Tryz.underlying62 hj ha Tryz.liesBuilder];simp only[Result.andThen];rw[Oper.upon_value];go_wp2
 go_end0
 exact⟨rfl,rfl⟩
theorem ZbY (B b:Nat) (bs:List Value) (w:World) (h:Lib.IsBuilderF 67 5 B b bs w) :
  Calls Tryz.prog 83 #[.pointer (some ⟨b,0,none⟩)] w fun e w'=>e=.returned (.tuple #[])∧BuF B b (.pointer (some ⟨b,0,none⟩)) bs w'∧Kept B b w w':=by
 rcases h with h|h
 ·refine (Zfx b w h.cell0 h.shape h.frozen0).mono ?_;rintro e w' ⟨rfl,rfl⟩;exact⟨rfl,h.used _,(Below.refl B w).setCell (p:=⟨b,0,none⟩) h.1 _,(Lib.OthersKept.refl _ _ w).setCell ⟨b,0,none⟩ rfl _⟩
 ·refine (Zgt b w h.cell0).mono ?_;rintro e w' ⟨rfl,rfl⟩;exact⟨rfl,h,Kept.refl B b _⟩
theorem Zgv (B b:Nat) (bs:List Value) (c:Int) (w:World) (h:Lib.IsBuilderF 67 5 B b bs w) (hp:bs.length+1≤140737488355328) (hq:B≤w.heap.size) :
  Calls Tryz.prog 45 #[.pointer (some ⟨b,0,none⟩),.int .u8 c] w fun e w'=>e=.returned .nilIface∧BuF B b (.pointer (some ⟨b,0,none⟩)) (bs++[.int .u8 c]) w'∧Kept B b w w':=by
 obtain⟨i0,hi,hl,hh,hg⟩:=info_parts Tryz.infoByte;go_enter Tryz.func45,Tryz.ntmps45
 go_wp2_with (refine (ZbY B b bs _ h).mono ?_)
 rintro e w1 ⟨rfl,h1,hf,ho⟩;obtain⟨hB,v,hd,hb,hm⟩:=h1;have c0:w1.cell? ⟨b,0,none⟩=some (.pointer (some ⟨b,0,none⟩)):=by rw[Lib.cell_of_heap hd];rfl
 have c1:w1.cell? ⟨b,1,none⟩=some v:=by rw[Lib.cell_of_heap hd];rfl
 go_wp2_with (at_builtin;refine wpList_append_ownF _ rfl _ _ 63 rfl B 5 i0 (.int .u8 0) 1 1 Tryz.underlying63 hi hl hh hg rfl (by decide) _ _ _ rfl (hb.alloc _) ⟨w1.heap.size,0,none⟩ 1 1 [.int .u8 c] rfl rfl ?c1 ?c2 ?c3 ?c4 ?c5 ?_)
 case c1 =>
  intro j u hj
  match j,hj with
  | 0,hj=>simp at hj;subst hj;simp[Addr.add]
 case c2=>intro u hu;simp at hu;subst hu;rfl
 case c3=>unfold maxLen;omega
 case c4=>omega
 case c5=>have:=hf.size;simp;omega
 intro v' w2 hc ha _;have hn:b<w1.heap.size:=by
  rcases Nat.lt_or_ge b w1.heap.size with h'|h'
  ·exact h'
  ·simp[Array.getElem?_eq_none h']at hd
 have he:w2.heap[b]? = some (.cells #[.pointer (some ⟨b,0,none⟩),v] 67 (0,0)):=by
  rw[ha.block b (by simp;omega) (fun e=>hm e.symm),Lib.alloc_old w1 _ b hn];exact hd
 have d0:w2.cell? ⟨b,0,none⟩=some (.pointer (some ⟨b,0,none⟩)):=by rw[Lib.cell_of_heap he];rfl
 have d1:w2.cell? ⟨b,1,none⟩=some v:=by rw[Lib.cell_of_heap he];rfl
 have f1:w2.frozen? ⟨b,1,none⟩=false:=Lib.frozen_of_heap he 1;obtain⟨g,cap,rfl⟩:∃ g cap,v'=.slice (some ⟨g,0,none⟩) (bs.length+1) cap:=by
  rcases hc.2 with ⟨_,h0⟩|⟨g,cap,cur,fz,hv,_⟩
  ·omega
  ·exact⟨g,cap,hv⟩
 go_wp2
 go_ret
 refine⟨rfl,?_,?_,((ho.alloc _).grown ha (Lib.ownsRowF_kind (hb.alloc _))).setCell ⟨b,1,none⟩ rfl _⟩
 ·exact Lib.BuilderAtF.put (T:=67) (e:=5) hB he (bs':=bs++[.int .u8 c]) (by simpa using hc) (by decide)
 ·exact ((hf.alloc (by have:=hf.size;omega) _).grown ha (by have:=hf.size;simp;omega) (fun k hk=>(hb.lt k hk).1)).setCell (p:=⟨b,1,none⟩) hB _
theorem Vg (B b:Nat) (bs:List Value) (s:ByteArray) (w:World) (h:Lib.IsBuilderF 67 5 B b bs w) (ho:bs.length+s.size≤140737488355328) (hp:B≤w.heap.size) :
  Calls Tryz.prog 43 #[.pointer (some ⟨b,0,none⟩),.string s] w fun e w'=>e=.returned (.tuple #[.int .i64 s.size,.nilIface])∧BuF B b (.pointer (some ⟨b,0,none⟩)) (bs++Lib.strCells s) w'∧Kept B b w w':=by
 obtain⟨i0,hi,hj,hh,hg⟩:=info_parts Tryz.infoByte;go_enter Tryz.func43,Tryz.ntmps43
 go_wp2_with (refine (ZbY B b bs _ h).mono ?_)
 rintro e w1 ⟨rfl,h1,hf,hn⟩;obtain⟨hB,v,hd,hb,hl⟩:=h1;have c0:w1.cell? ⟨b,0,none⟩=some (.pointer (some ⟨b,0,none⟩)):=by rw[Lib.cell_of_heap hd];rfl
 have c1:w1.cell? ⟨b,1,none⟩=some v:=by rw[Lib.cell_of_heap hd];rfl
 go_wp2_with (at_builtin;refine Lib.wpList_append_own_stringF _ rfl _ _ 63 9 rfl B 5 i0 Tryz.underlying63 Tryz.underlying9 hi hj hh hg _ _ _ rfl hb s rfl ?c3 ?c4 ?c5 ?_)
 case c3=>unfold maxLen;omega
 case c4=>omega
 case c5=>have:=hf.size;omega
 intro v' w2 hc ha _;have hm:b<w1.heap.size:=by
  rcases Nat.lt_or_ge b w1.heap.size with h'|h'
  ·exact h'
  ·simp[Array.getElem?_eq_none h']at hd
 have he:w2.heap[b]? = some (.cells #[.pointer (some ⟨b,0,none⟩),v] 67 (0,0)):=by
  rw[ha.block b hm (fun e=>hl e.symm)];exact hd
 have d0:w2.cell? ⟨b,0,none⟩=some (.pointer (some ⟨b,0,none⟩)):=by rw[Lib.cell_of_heap he];rfl
 have d1:w2.cell? ⟨b,1,none⟩=some v:=by rw[Lib.cell_of_heap he];rfl
 have f1:w2.frozen? ⟨b,1,none⟩=false:=Lib.frozen_of_heap he 1;obtain⟨ao,n',cap,rfl⟩:∃ ao n' cap,v'=.slice ao n' cap:=by
  rcases hc.2 with ⟨hv,_⟩|⟨g,cap,cur,fz,hv,_⟩;iterate 2
   ·exact⟨_,_,_,hv⟩
 go_wp2
 go_ret2
 refine⟨rfl,?_,?_,(hn.grown ha (Lib.ownsRowF_kind hb)).setCell ⟨b,1,none⟩ rfl _⟩
 ·exact Lib.BuilderAtF.put (T:=67) (e:=5) hB he (bs':=bs++Lib.strCells s) (by simpa [Lib.strCells_length]using hc) (by decide)
 ·exact (hf.grown ha (by have:=hf.size;omega) (fun k hk=>(hb.lt k hk).1)).setCell (p:=⟨b,1,none⟩) hB _
def Zhl (B b:Nat) (l:List UInt8) (w:World) (e:Ending) (w':World):Prop:=e=.returned (.string ⟨l.toArray⟩)∧Kept B b w w'
theorem Zgu (B b:Nat) (l:List UInt8) (w:World) (h:Bu B b l w) (h0:l≠[]) :
  Calls Tryz.prog 26 #[.pointer (some ⟨b,0,none⟩)] w (Zhl B b l w):=by
 obtain⟨p,hB,v,he,ha,hi⟩:∃ p,BuF B b p (Lib.byteCells l) w:=by
  rcases h with h|h;iterate 2
   ·exact⟨_,h⟩
 have hb:l.length≠0:=by simpa using h0
 rw[Lib.byteCells_length]at ha;obtain⟨g,cap,cur,fz,rfl,hf,hg,hk,hj,hd,hl,hh⟩:∃ g cap cur fz,v=.slice (some ⟨g,0,none⟩) l.length cap∧B≤g∧w.heap[g]? = some (.cells cur 5 fz)∧fz.2≤l.length*1∧l.length≤cap∧cap≤maxLen∧cur.size=cap*1∧cur.toList.take (l.length*1)=Lib.byteCells l:=by
  rcases ha.2 with ⟨_,hz⟩|⟨g,cap,cur,fz,hv,r⟩
  ·exact absurd hz hb
  ·exact⟨g,cap,cur,fz,hv,r⟩
 have c1:w.drew.cell? ⟨b,1,none⟩=some (.slice (some ⟨g,0,none⟩) l.length cap):=by
  have:w.drew.heap[b]? = some (.cells #[p,.slice (some ⟨g,0,none⟩) l.length cap] 67 (0,0)):=he;rw[Lib.cell_of_heap this];rfl
 have hn:(Builtin.unsafeSliceData_ #[63] 110 #[.slice (some ⟨g,0,none⟩) l.length cap]).run Tryz.prog w.drew=.ok (.pointer (some ⟨g,0,none⟩)) w.drew:=
  Lib.run_unsafeSliceData_row _ _ _ _ _ _ (by omega)
 have hm:(Builtin.unsafeString_ #[110,3] 9 #[.pointer (some ⟨g,0,none⟩),.int .i64 l.length]).run Tryz.prog w.drew=.ok (.string ⟨l.toArray⟩) (w.drew.freeze ⟨g,0,none⟩ l.length):=by
  refine Lib.run_unsafeString_row w.drew 110 3 9 5 Tryz.underlying110 (by kernel_rfl) g cur.size (by have hc:w.drew.heap[g]? = some (.cells cur 5 fz):=hg;simp[World.shape?,hc]) l h0 (by omega) (by unfold maxLen at hd;omega) ?_
  intro j x hx;have:=ha.cells (g:=g) rfl j (.int .u8 x.toNat) (by simp[Lib.byteCells,hx]);exact this
 go_enter Tryz.func26,Tryz.ntmps26
 go_wp2
 go_region
 all_goals (go_wp2;go_ret;exact⟨rfl,Lib.below_freeze (Below.drew (Below.refl B w)) (p:=⟨g,0,none⟩) hf _,((Lib.OthersKept.refl _ _ w).drew).freeze ⟨g,0,none⟩ _ ⟨cur,fz,hg⟩⟩)
end Go.Proofs.YtmhojfpidedjeaaGreatDoor
