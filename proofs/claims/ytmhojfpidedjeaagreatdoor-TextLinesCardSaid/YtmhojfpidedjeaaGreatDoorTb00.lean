/- What the walks of the order layer speak of: old memory that stays; slices of integers as lists; instructions. A region that draws its order, by what is known of each operation's value: whatever order is drawn, each operation runs when those it stands behind have run; what is known of their values is -/
import Derived.Test.YtmhojfpidedjeaaGreatDoorRows
import Derived.WalkKit
import Derived.WalkSpells
import Derived.WalkLawsBesides
import Derived.Lib.Hide
import Derived.Laws.AppendOwnNone
import Derived.RegionTactic
import Derived.Deep.Slices
import Derived.WideShapes
import Derived.Shelf.Strings.BuilderK
namespace Go.Proofs.YtmhojfpidedjeaaGreatDoor
open Go.RowKit
def Since (w0 w:World):Prop:=Below w0.heap.size w0 w
theorem Since.refl (w:World):Since w w:=Below.refl _ _
theorem Since.trans {a b c:World} (h:Since a b) (k:Since b c):Since a c:=Below.trans h (Below.mono k h.size)
theorem Since.size {a b:World} (h:Since a b):a.heap.size≤b.heap.size:=Below.size h
theorem Since.alloc {a b:World} (h:Since a b) (o:Obj):Since a (b.alloc o):=Below.alloc h h.size o
theorem Since.drew {a b:World} (h:Since a b):Since a b.drew:=Below.drew h
theorem Since.cell {a b:World} (h:Since a b) {p : Addr} (hp:p.block<a.heap.size):b.cell? p=a.cell? p:=Below.cell h hp
def Nums (k:IntKind) (w:World) (v:Value) (l:List Int):Prop:=
 (∃ a,v=.slice a 0 0∧l=[]) ∨
 ∃ b off cap,v=.slice (some ⟨b,off,none⟩) l.length cap∧l.length≤cap∧cap≤maxLen∧b<w.heap.size∧∀ (j:Nat) (n:Int),l[j]? = some n→w.cell? ⟨b,off+j,none⟩=some (.int k n)
abbrev Ints:=Nums .i64
theorem Nums.nil (k:IntKind) (w:World):Nums k w (.slice none 0 0) []:=.inl ⟨_,rfl,rfl⟩
theorem Nums.keep {k : IntKind} {w w':World} {v : Value} {l : List Int} (h:Nums k w v l) (s:Since w w'):Nums k w' v l:=by
 rcases h with h|⟨b,off,cap,h1,h2,h3,h4,h5⟩
 ·exact .inl h
 ·exact .inr ⟨b,off,cap,h1,h2,h3,Nat.lt_of_lt_of_le h4 s.size,fun j n hj=>by rw[s.cell h4];exact h5 j n hj⟩
theorem Nums.len {k : IntKind} {w : World} {v : Value} {l : List Int} (h:Nums k w v l):l.length≤maxLen:=by
 rcases h with ⟨_,_,h⟩|⟨_,_,_,_,h2,h3,_⟩
 ·rw[h];exact Nat.zero_le _
 ·omega
theorem nums_new {k : IntKind} {w : World} {b : Nat} (l:List Int) (t:TypeId) (cap:Nat) (hc:l.length≤cap) (hm:cap≤maxLen) {cs:List Value} (hb:w.heap[b]? = some (.cells cs.toArray t (0,0)))
  (hcs:∀ (j:Nat) (n:Int),l[j]? = some n→cs[j]? = some (Value.int k n)):Nums k w (.slice (some ⟨b,0,none⟩) l.length cap) l:=by
 refine .inr ⟨b,0,cap,rfl,hc,hm,(Array.getElem?_eq_some_iff.1 hb).1,fun j n hj=>?_⟩
 simp[World.cell?,hb,hcs j n hj]
theorem nums_of_own {k : IntKind} {w : World} {base:Nat} {e : TypeId} {v : Value} {l : List Int} (h:w.ownsRow base e 1 v l.length (l.map (Value.int k))):Nums k w v l:=by
 obtain⟨_,⟨hv,hn⟩|⟨g,cap,cur,hv,_,hg,hc,hm,hs,htake⟩⟩:=h
 ·refine .inl ⟨_,hv,?_⟩
  exact List.length_eq_zero_iff.1 hn
 ·subst hv
  refine nums_new (cs:=cur.toList) l e cap hc hm (by simpa using hg) fun j n hj=>?_
  have hlt:j<l.length:=(List.getElem?_eq_some_iff.1 hj).1
  have:=congrArg (fun x=>x[j]?) htake
  simp only[Nat.mul_one,List.getElem?_map,hj,Option.map_some]at this
  rwa [List.getElem?_take_of_lt hlt]at this
theorem own_nil (w:World) (base:Nat) (e:TypeId) (k:IntKind):w.ownsRow base e 1 (.slice none 0 0) ([]:List Int).length (([]:List Int).map (Value.int k)):=⟨rfl,.inl ⟨rfl,rfl⟩⟩
structure Mach where
 op:Int
 d:Int
 e:Int
 a:Int
 b:Int
 c:Int
 imm:Int
 args:List Int
def mv (m:Mach) (av:Value):Value:=.agg #[.int .i64 m.op,.int .i64 m.d,.int .i64 m.e,.int .i64 m.a,.int .i64 m.b,.int .i64 m.c,.int .i32 m.imm,av]
def Gives (w:World) (l:List Int) (e:Ending) (w':World):Prop:=∃ v,e=.returned v∧Ints w' v l∧Since w w'
theorem heap_last (w:World) (o:Obj):(w.alloc o).heap[w.heap.size]? = some o:=(MapKept.heap_alloc w o).1
theorem gives_last {w0 w:World} (s:Since w0 w) {b n:Nat} (l:List Int) (t:TypeId) {cs:Array Value} (hb:b=w.heap.size) (hn:n=l.length) (hm:l.length≤maxLen) (hcs:cs=(l.map (Value.int .i64)).toArray) :
  Gives w0 l (.returned (.slice (some ⟨b,0,none⟩) n n)) (w.alloc (.cells cs t)):=by
 subst hb;subst hn;subst hcs
 refine⟨_,rfl,nums_new l t _ (Nat.le_refl _) hm (heap_last _ _) ?_,s.alloc _⟩
 intro j n hj
 simp[hj]
theorem gives_none {w0 w:World} (s:Since w0 w):Gives w0 [] (.returned (.slice none 0 0)) w:=⟨_,rfl,.nil _ _,s⟩
def putAll:List Oper→Nat→(Nat→Value)→Act→Act
 | [],_,_,a=>a
 | o::r,k,vs,a=>putAll r (k+1) vs (a.put o.dst (vs k))
def dstsApart:List Oper→Bool
 | []=>true
 | o::r=>(r.all fun p=>match o.dst,p.dst with | some d,some e=>d != e | _,_=>true)&&dstsApart r
theorem apart_head {o : Oper} {r : List Oper} (h:dstsApart (o::r)=true):(∀ p∈r,∀ d,o.dst=some d→p.dst≠some d)∧dstsApart r=true:=by
 unfold dstsApart at h
 rw[Bool.and_eq_true,List.all_eq_true]at h
 refine⟨fun p hp d hd hc=>?_,h.2⟩
 have:=h.1 p hp
 rw[hd,hc]at this
 simp at this
theorem putAll_put (dst:Option Tmp) (v:Value):∀ (l:List Oper) (k:Nat) (vs:Nat→Value) (a:Act),(∀ p∈l,∀ d,dst=some d→p.dst≠some d)→(putAll l k vs a).put dst v=putAll l k vs (a.put dst v)
 | [],_,_,_,_=>rfl
 | o::r,k,vs,a,h=>by
  show (putAll r (k+1) vs (a.put o.dst (vs k))).put dst v=putAll r (k+1) vs ((a.put dst v).put o.dst (vs k))
  rw[putAll_put dst v r (k+1) vs _ (fun p hp=>h p (List.mem_cons_of_mem _ hp)),Act.put_comm a v (vs k) (h o List.mem_cons_self)]
theorem putAll_congr:∀ (l:List Oper) (k:Nat) (vs vs':Nat→Value) (a:Act),(∀ j,k≤j→vs j=vs' j)→putAll l k vs a=putAll l k vs' a
 | [],_,_,_,_,_=>rfl
 | o::r,k,vs,vs',a,h=>by
  show putAll r (k+1) vs _=putAll r (k+1) vs' _
  rw[h k (Nat.le_refl _)]
  exact putAll_congr r (k+1) vs vs' _ fun j hj=>h j (by omega)
theorem put_put (a:Act) (x:Option Tmp) (v u:Value):(a.put x v).put x u=a.put x u:=by
 cases x with
 | none=>rfl
 | some d=>simp[Act.put,Array.setIfInBounds_setIfInBounds]
def upd (vs:Nat→Value) (i:Nat) (v:Value):Nat→Value:=fun j=>if j=i then v else vs j
theorem upd_same (vs:Nat→Value) (i:Nat) (v:Value):upd vs i v i=v:=if_pos rfl
theorem upd_other (vs:Nat→Value) {i j:Nat} (v:Value) (h:j≠i):upd vs i v j=vs j:=if_neg h
theorem putAll_upd (v:Value):∀ (l:List Oper) (k:Nat) (vs:Nat→Value) (a:Act) (i:Nat) (o:Oper),l[i]? = some o→dstsApart l=true→putAll l k (upd vs (k+i) v) a=(putAll l k vs a).put o.dst v
 | [],_,_,_,_,_,h,_=>by cases h
 | p::r,k,vs,a,0,o,h,hd=>by
  obtain rfl:p=o:=by simpa using h
  show putAll r (k+1) (upd vs (k+0) v) (a.put p.dst (upd vs (k+0) v k))=(putAll r (k+1) vs (a.put p.dst (vs k))).put p.dst v
  rw[putAll_put p.dst v r (k+1) vs _ (apart_head hd).1,put_put]
  simp only[Nat.add_zero,upd_same]
  exact putAll_congr r (k+1) _ _ _ fun j hj=>upd_other _ _ (by omega)
 | p::r,k,vs,a,i+1,o,h,hd=>by
  have hr:r[i]? = some o:=by simpa using h
  show putAll r (k+1) (upd vs (k+(i+1)) v) (a.put p.dst (upd vs (k+(i+1)) v k))=(putAll r (k+1) vs (a.put p.dst (vs k))).put o.dst v
  rw[upd_other _ _ (by omega:k≠k+(i+1)),show k+(i+1)=k+1+i from by omega]
  exact putAll_upd v r (k+1) vs _ i o hr (apart_head hd).2
theorem put_old (a:Act) (d:Tmp):a.put (some d) (a.tmps.getD d undef)=a:=by
 have:a.tmps.setIfInBounds d (a.tmps.getD d undef)=a.tmps:=by
  apply Array.ext_getElem?
  intro j
  rw[Array.getElem?_setIfInBounds]
  by_cases h:d=j
  ·subst h
   by_cases hd:d<a.tmps.size
   ·simp[hd]
   ·simp[hd]
  ·simp[h]
 simp only[Act.put,this]
def oldAt (l:List Oper) (a:Act):Nat→Value:=fun i=>match (l[i]?).bind (·.dst) with | some d=>a.tmps.getD d undef | none=>undef
theorem putAll_old (old:Nat→Value) (a:Act):∀ (l:List Oper) (k:Nat),(∀ (i:Nat) (o:Oper) (d:Tmp),l[i]? = some o→o.dst=some d→old (k+i)=a.tmps.getD d undef)→putAll l k old a=a
 | [],_,_=>rfl
 | o::r,k,h=>by
  show putAll r (k+1) old (a.put o.dst (old k))=a
  have e:a.put o.dst (old k)=a:=by
   cases ho:o.dst with
   | none=>rfl
   | some d=>rw[show old k=a.tmps.getD d undef from h 0 o d rfl ho];exact put_old a d
  rw[e]
  exact putAll_old old a r (k+1) fun i p d hi hd=>by rw[show k+1+i=k+(i+1) from by omega];exact h (i+1) p d (by simpa using hi) hd
def edgesBack:List Oper→Nat→Bool
 | [],_=>true
 | o::r,k=>(o.after.all fun e=>!Region.binds .any e||decide (e.on<k))&&edgesBack r (k+1)
theorem edges_back:∀ (l:List Oper) (k:Nat),edgesBack l k=true→∀ (i:Nat) (o:Oper),l[i]? = some o→∀ e∈o.after,Region.binds .any e=true→e.on<k+i
 | [],_,_,_,_,h=>by cases h
 | p::r,k,hb,i,o,h=>by
  unfold edgesBack at hb
  rw[Bool.and_eq_true]at hb
  cases i with
  | zero =>
   obtain rfl:p=o:=by simpa using h
   intro e he hbd
   have:=(Array.all_eq_true_iff_forall_mem.1 hb.1) e he
   rw[hbd]at this
   simpa using this
  | succ i =>
   intro e he hbd
   have:=edges_back r (k+1) hb.2 i o (by simpa using h) e he hbd
   omega
def Knows (F:Nat→Value→World→Prop) (vs:Nat→Value) (w:World):List Edge→Prop
 | []=>True
 | e::r=>(match e.ground with | .textOnly _=>True | .gcOnly _=>True | _=>F e.on (vs e.on) w)∧Knows F vs w r
theorem knows_of (F:Nat→Value→World→Prop) (vs:Nat→Value) (w:World):∀ (l:List Edge),(∀ e∈l,Region.binds .any e=true→F e.on (vs e.on) w)→Knows F vs w l
 | [],_=>trivial
 | e::r,h=>by
  refine⟨?_,knows_of F vs w r fun x hx=>h x (List.mem_cons_of_mem _ hx)⟩
  have:=h e List.mem_cons_self
  unfold Region.binds at this
  revert this
  cases e.ground<;>intro this<;>first | trivial | exact this rfl
def KnowsAll (F:Nat→Value→World→Prop) (vs:Nat→Value) (w:World):Nat→Nat→Prop
 | _,0=>True
 | k,n+1=>F k (vs k) w∧KnowsAll F vs w (k+1) n
theorem knowsAll_of (F:Nat→Value→World→Prop) (vs:Nat→Value) (w:World):∀ (n k:Nat),(∀ i,k≤i→i<k+n→F i (vs i) w)→KnowsAll F vs w k n
 | 0,_,_=>trivial
 | n+1,k,h=>⟨h k (Nat.le_refl _) (by omega),knowsAll_of F vs w n (k+1) fun i h1 h2=>h i (by omega) (by omega)⟩
def Left (F:Nat→Value→World→Prop) (i:Nat) (dst:Option Tmp) (a:Act) (w:World) (a':Act) (w':World):Prop:=∃ v,a'=a.put dst v∧F i v w'∧Since w w'
def OneQ (Q:Exit→Act→World→Prop) (F:Nat→Value→World→Prop) (i:Nat) (dst:Option Tmp) (a:Act) (w:World):Exit→Act→World→Prop
 | .normal,a',w'=>Left F i dst a w a' w'
 | e,a',w'=>Q e a' w'
theorem Oper.wp_turn {P : Program} {o : Oper} {a : Act} {w : World} {K : Act→World→Prop} {Q Q':Exit→Act→World→Prop} (h1:∀ c a w,Q' (.panic c) a w→Q (.panic c) a w) (h2:LetsOut Q'→LetsOut Q)
  (hh:o.wp P a w K Q'):o.wp P a w K Q:=by
 unfold Oper.wp at *
 generalize (execOp a.eval o).run P w=r at *
 cases r with
 | ok n w' =>
  cases n<;>simp only[Oper.upon]at hh ⊢ <;>
   first
    | exact hh
    | exact Calls.mono hh (fun e w'' he=>by cases e<;>first | exact he | exact h1 _ _ _ he | exact h2 he)
 | halt x w'=>cases x<;>simp only[Oper.upon]at hh ⊢<;>first | exact hh | exact h1 _ _ _ hh
def Steps1 (P:Program) (all:Array Oper) (Q:Exit→Act→World→Prop) (F:Nat→Value→World→Prop) (a0:Act) (w0:World):List Oper→Nat→Prop
 | [],_=>True
 | o::r,k=>(∀ (vs:Nat→Value) (w:World),Since w0 w→Knows F vs w o.after.toList →
   wpList P all (OneQ Q F k o.dst (putAll all.toList 0 vs a0) w) [o] (putAll all.toList 0 vs a0) w)∧Steps1 P all Q F a0 w0 r (k+1)
theorem steps_at {P : Program} {all:Array Oper} {Q : Exit→Act→World→Prop} {F : Nat→Value→World→Prop} {a0:Act} {w0:World}:∀ (l:List Oper) (k:Nat),Steps1 P all Q F a0 w0 l k→∀ (i:Nat) (o:Oper),l[i]? = some o→all[k+i]? = some o →
  ∀ (vs:Nat→Value) (w:World),Since w0 w→Knows F vs w o.after.toList→∀ K:Act→World→Prop,(∀ a' w',Left F (k+i) o.dst (putAll all.toList 0 vs a0) w a' w'→K a' w') →
   wpOp P all Q (k+i) K (putAll all.toList 0 vs a0) w
 | [],_,_,_,_,h,_=>by cases h
 | p::r,k,h,0,o,ho,hall=>by
  obtain rfl:p=o:=by simpa using ho
  intro vs w hw hk K hK
  have:=h.1 vs w hw hk
  unfold wpOp
  rw[hall]
  simp only[wpList]at this
  show if _ then _ else _
  split
  ·rename_i hwant
   rw[if_pos hwant]at this
   rcases this with this|⟨h1,h2⟩
   ·exact .inl (Oper.wp_turn (fun _ _ _ h=>h) (fun h=>h) (Oper.wp_mono (fun a' w' h=>hK a' w' h) this))
   ·exact .inr ⟨h1,h2⟩
  ·rename_i hwant
   rw[if_neg hwant]at this
   exact hK _ _ this
 | p::r,k,h,i+1,o,ho,hall=>by
  have:=steps_at r (k+1) h.2 i o (by simpa using ho) (by rw[show k+1+i=k+(i+1) from by omega];exact hall)
  rw[show k+1+i=k+(i+1) from by omega]at this
  exact this
section
variable {P : Program} {Q : Exit→Act→World→Prop} {l : List Oper} {F : Nat→Value→World→Prop} {a0:Act} {w0:World}
theorem any_facts (hF:∀ i v w w',F i v w→Since w w'→F i v w') (hd:dstsApart l=true) (hb:edgesBack l 0=true)
  (hs:Steps1 P l.toArray Q F a0 w0 l 0)
  (he:∀ vs w,Since w0 w→KnowsAll F vs w 0 l.length→Q .normal (putAll l 0 vs a0) w) :
  ∀ (fuel:Nat) (listed:Array Bool) (vs:Nat→Value) (w:World),listed.size=l.length→((List.range l.length).filter fun i=>!listed.getD i true).length≤fuel→Since w0 w →
   (∀ i,i<l.length→listed.getD i true=true→F i (vs i) w)→wpAny P .any l.toArray Q fuel listed (putAll l 0 vs a0) w:=by
 have hend:∀ (listed:Array Bool) (vs:Nat→Value) (w:World),listed.size=l.length→Region.ready .any l.toArray listed=[]→Since w0 w →
   (∀ i,i<l.length→listed.getD i true=true→F i (vs i) w)→Q .normal (putAll l 0 vs a0) w:=by
  intro listed vs w hsz hr hw hk
  refine he vs w hw (knowsAll_of F vs w _ 0 fun i _ hi=>hk i (by omega) ?_)
  have all:∀ (n i:Nat),i<n→i<l.length→listed.getD i true=true:=by
   intro n
   induction n with
   | zero=>intro i h;omega
   | succ n ih =>
    intro i h1 h2
    cases hl:listed.getD i true with
    | true=>rfl
    | false =>
     exfalso
     have:i∈Region.ready .any l.toArray listed:=by
      rw[mem_ready]
      have ho:l[i]? = some l[i]:=List.getElem?_eq_getElem h2
      refine⟨hl,l[i],by simp,fun e hee hbd=>?_⟩
      have hlt:=edges_back l 0 hb i l[i] ho e hee hbd
      have:=ih e.on (by omega) (by omega)
      have hin:e.on<listed.size:=by omega
      rw[Array.getD_eq_getD_getElem?,Array.getElem?_eq_getElem hin]at this ⊢
      simpa using this
     rw[hr]at this
     cases this
  exact all (i+1) i (by omega) (by omega)
 intro fuel
 induction fuel with
 | zero =>
  intro listed vs w hsz hn hw hk
  have hr:Region.ready .any l.toArray listed=[]:=by
   rw[List.eq_nil_iff_forall_not_mem]
   intro i hi
   rw[mem_ready]at hi
   obtain⟨h1,o,ho,_⟩:=hi
   have hlt:i<l.length:=by simpa using (Array.getElem?_eq_some_iff.1 ho).1
   have:i∈(List.range l.length).filter fun i=>!listed.getD i true:=by
    rw[List.mem_filter];exact⟨List.mem_range.2 hlt,by simp[h1]⟩
   have:=List.length_pos_of_mem this
   omega
  exact⟨hr,hend listed vs w hsz hr hw hk⟩
 | succ fuel ih =>
  intro listed vs w hsz hn hw hk
  refine⟨fun hr=>hend listed vs w hsz hr hw hk,fun i hi=>?_⟩
  rw[mem_ready]at hi
  obtain⟨h1,o,ho,hpre⟩:=hi
  have hol:l[i]? = some o:=by simpa using ho
  have hlt:i<l.length:=(List.getElem?_eq_some_iff.1 hol).1
  have hknow:Knows F vs w o.after.toList:=by
   refine knows_of F vs w _ fun e hee hbind=>?_
   have hee':e∈o.after:=by simpa using hee
   have hlt2:=edges_back l 0 hb i o hol e hee' hbind
   have hon:e.on<l.length:=by omega
   refine hk e.on hon ?_
   have:=hpre e hee' hbind
   have hin:e.on<listed.size:=by omega
   rw[Array.getD_eq_getD_getElem?,Array.getElem?_eq_getElem hin]at this ⊢
   simpa using this
  have hstep:=steps_at l 0 hs i o hol (by simpa using hol) vs w hw hknow
  rw[Nat.zero_add]at hstep
  refine hstep _ fun a' w' ⟨v,ha',hv,hw'⟩=>?_
  subst ha'
  have e:=putAll_upd v l 0 vs a0 i o hol hd
  rw[Nat.zero_add]at e
  rw[show l.toArray.toList=l from rfl,←e]
  refine ih (listed.setIfInBounds i true) (upd vs i v) w' (by simpa using hsz) ?_ (hw.trans hw') ?_
  ·have e2:((List.range l.length).filter fun j=>!(listed.setIfInBounds i true).getD j true)=((List.range l.length).filter fun j=>!listed.getD j true).filter fun j=>j != i:=by
    rw[List.filter_filter]
    refine List.filter_congr fun j hj=>?_
    by_cases hji:j=i
    ·subst hji
     have hin:j<listed.size:=by omega
     simp[Array.getD_eq_getD_getElem?,hin]
    ·rw[getD_set_ne _ (Ne.symm hji)];simp[hji]
   rw[e2]
   have hmem:i∈(List.range l.length).filter fun j=>!listed.getD j true:=by
    rw[List.mem_filter];exact⟨List.mem_range.2 hlt,by simp[h1]⟩
   have:=(List.length_filter_lt_length_iff_exists (p:=fun j=>j != i) (l:=(List.range l.length).filter fun j=>!listed.getD j true)).2 ⟨i,hmem,by simp⟩
   omega
  ·intro j hj hlj
   by_cases hji:j=i
   ·subst hji;rw[upd_same];exact hv
   ·rw[upd_other _ _ hji]
    rw[getD_set_ne _ (Ne.symm hji)]at hlj
    exact hF _ _ _ _ (hk j hj hlj) hw'
theorem wp_region_facts {id:Nat} (hm:P.follows .mixedOrders=true) (hd:dstsApart l=true) (hb:edgesBack l 0=true) (F:Nat→Value→World→Prop) (hF:∀ i v w w',F i v w→Since w w'→F i v w')
  (hs:Steps1 P l.toArray Q F a0 w0 l 0)
  (he:∀ vs w,Since w0 w→KnowsAll F vs w 0 l.length→Q .normal (putAll l 0 vs a0) w):(Code.region id l.toArray true).wp P Q a0 w0:=by
 refine wp_region_any hm ?_
 have e:=putAll_old (oldAt l a0) a0 l 0 (fun i o d hi hdst=>by simp[oldAt,hi,hdst])
 have h:=any_facts hF hd hb hs he l.length (Array.replicate l.length false) (oldAt l a0) { w0 with drawn:=w0.drawn+1 } (by simp) (Nat.le_trans (List.length_filter_le _ _) (by simp)) (Since.refl w0).drew
  (fun i hi hl=>by simp[Array.getD_eq_getD_getElem?,hi]at hl)
 rw[e]at h
 simpa using h
end
def nthF:List (Value→World→Prop)→Nat→Value→World→Prop
 | [],_=>fun _ _=>True
 | f::_,0=>f
 | _::r,i+1=>nthF r i
def Stable (f:Value→World→Prop):Prop:=∀ v w w',f v w→Since w w'→f v w'
def AllStable:List (Value→World→Prop)→Prop
 | []=>True
 | f::r=>Stable f∧AllStable r
theorem nthF_stable:∀ (l:List (Value→World→Prop)),AllStable l→∀ i v w w',nthF l i v w→Since w w'→nthF l i v w'
 | [],_,_,_,_,_,_,_=>trivial
 | _::_,h,0,v,w,w',hv,hs=>h.1 v w w' hv hs
 | _::r,h,i+1,v,w,w',hv,hs=>nthF_stable r h.2 i v w w' hv hs
def Is (x:Value) (v:Value) (_:World):Prop:=v=x
def Any (_:Value) (_:World):Prop:=True
def IsNums (k:IntKind) (l:List Int) (v:Value) (w:World):Prop:=Nums k w v l
theorem Is.stable (x:Value):Stable (Is x):=fun _ _ _ h _=>h
theorem Any.stable:Stable Any:=fun _ _ _ h _=>h
theorem IsNums.stable (k:IntKind) (l:List Int):Stable (IsNums k l):=fun _ _ _ h hs=>Nums.keep h hs
theorem wp_region_list_facts {P : Program} {Q : Exit→Act→World→Prop} {l : List Oper} {a0:Act} {w0:World} {id:Nat} (hm:P.follows .mixedOrders=true) (hd:dstsApart l=true) (hb:edgesBack l 0=true) (Fs:List (Value→World→Prop)) (hF:AllStable Fs)
  (hs:Steps1 P l.toArray Q (nthF Fs) a0 w0 l 0)
  (he:∀ vs w,Since w0 w→KnowsAll (nthF Fs) vs w 0 l.length→Q .normal (putAll l 0 vs a0) w):(Code.region id l.toArray true).wp P Q a0 w0:=
 wp_region_facts hm hd hb (nthF Fs) (nthF_stable Fs hF) hs he
theorem flat_at {α:Type} (f:α→List Value) (sz:Nat) (hf:∀ x,(f x).length=sz):∀ (l:List α) (j t:Nat) (x:α),l[j]? = some x→t<sz→(l.flatMap f)[j*sz+t]? = (f x)[t]?
 | [],_,_,_,h,_=>by cases h
 | y::r,0,t,x,h,ht=>by
  obtain rfl:y=x:=by simpa using h
  rw[List.flatMap_cons,List.getElem?_append_left (by rw[hf];omega)]
  simp
 | y::r,j+1,t,x,h,ht=>by
  rw[List.flatMap_cons,List.getElem?_append_right (by rw[hf,Nat.succ_mul];omega),hf,show (j+1)*sz+t-sz=j*sz+t from by rw[Nat.succ_mul];omega]
  exact flat_at f sz hf r j t x (by simpa using h) ht
theorem flat_len {α:Type} (f:α→List Value) (sz:Nat) (hf:∀ x,(f x).length=sz):∀ (l:List α),(l.flatMap f).length=l.length*sz
 | []=>by simp
 | y::r=>by rw[List.flatMap_cons,List.length_append,hf,flat_len f sz hf r,List.length_cons,Nat.succ_mul];omega
theorem own_keep {w w':World} {base:Nat} {e : TypeId} {size n:Nat} {v : Value} {xs:List Value} (h:w.ownsRow base e size v n xs) (s:Since w w'):w'.ownsRow base e size v n xs:=by
 obtain⟨h0,h|⟨g,cap,cur,h1,h2,h3,h4⟩⟩:=h
 ·exact⟨h0,.inl h⟩
 ·exact⟨h0,.inr ⟨g,cap,cur,h1,h2,(Below.block s g (Array.getElem?_eq_some_iff.1 h3).1).trans h3,h4⟩⟩
def OwnRow {α:Type} (f:α→List Value) (sz:Nat) (e:TypeId) (base:Nat) (w:World) (v:Value) (l:List α):Prop:=w.ownsRow base e sz v l.length (l.flatMap f)
theorem OwnRow.keep {α:Type} {f : α→List Value} {sz:Nat} {e : TypeId} {base:Nat} {w w':World} {v : Value} {l : List α} (h:OwnRow f sz e base w v l) (s:Since w w'):OwnRow f sz e base w' v l:=own_keep h s
theorem OwnRow.nil {α:Type} (f:α→List Value) (sz:Nat) (e:TypeId) (base:Nat) (w:World):OwnRow f sz e base w (.slice none 0 0) []:=⟨by simp,.inl ⟨rfl,rfl⟩⟩
theorem OwnRow.shape {α:Type} {f : α→List Value} {sz:Nat} {e : TypeId} {base:Nat} {w : World} {v : Value} {l : List α} (h:OwnRow f sz e base w v l):∃ a cap,v=.slice a l.length cap:=by
 obtain⟨_,⟨hv,hn⟩|⟨g,cap,cur,hv,_⟩⟩:=h
 ·exact⟨none,0,by rw[hv,hn]⟩
 ·exact⟨_,cap,hv⟩
theorem OwnRow.cells {α:Type} {f : α→List Value} {sz:Nat} (hf:∀ x,(f x).length=sz) {e : TypeId} {base:Nat} {w : World} {v : Value} {l : List α} (h:OwnRow f sz e base w v l) :
  (v=.slice none 0 0∧l=[])∨∃ g cap,v=.slice (some ⟨g,0,none⟩) l.length cap∧l.length≤cap∧cap≤maxLen∧base≤g∧g<w.heap.size∧∀ (j t:Nat) (x:α),l[j]? = some x→t<sz→w.cell? ⟨g,j*sz+t,none⟩=(f x)[t]?:=by
 obtain⟨_,⟨hv,hn⟩|⟨g,cap,cur,hv,hb,hg,hc,hm,hs,htake⟩⟩:=h
 ·exact .inl ⟨hv,List.length_eq_zero_iff.1 hn⟩
 ·refine .inr ⟨g,cap,hv,hc,hm,hb,(Array.getElem?_eq_some_iff.1 hg).1,fun j t x hj ht=>?_⟩
  have hlt:j<l.length:=(List.getElem?_eq_some_iff.1 hj).1
  have hle:j*sz+t<l.length*sz:=by
   have:(j+1)*sz≤l.length*sz:=Nat.mul_le_mul_right _ hlt
   rw[Nat.succ_mul]at this;omega
  have e1:=congrArg (fun x=>x[j*sz+t]?) htake
  simp only[List.getElem?_take_of_lt hle,flat_at f sz hf l j t x hj ht]at e1
  simp only[World.cell?,hg]
  simpa using e1
def predB (l:List Oper) (j i:Nat):Bool:=match l[i]? with
 | some o=>o.after.toList.any fun e=>e.on==j&&Region.binds .any e
 | none=>false
def aheadB (l:List Oper):Nat→Nat→Nat→Bool
 | 0,_,_=>false
 | f+1,k,i=>match l[i]? with
  | some o=>o.after.toList.any fun e=>Region.binds .any e&&(e.on==k||aheadB l f k e.on)
  | none=>false
def Closed (l:List Oper) (listed:Array Bool):Prop:=∀ (i:Nat) (o:Oper),l[i]? = some o→listed.getD i false=true→∀ e∈o.after,Region.binds .any e=true→listed.getD e.on false=true
theorem ahead_listed {l : List Oper} {listed:Array Bool} (hc:Closed l listed):∀ (f k i:Nat),aheadB l f k i=true→∀ o,l[i]? = some o→(∀ e∈o.after,Region.binds .any e=true→listed.getD e.on false=true)→listed.getD k false=true
 | 0,_,_,h,_,_,_=>by cases h
 | f+1,k,i,h,o,ho,hp=>by
  unfold aheadB at h
  rw[ho]at h
  simp only[List.any_eq_true,Bool.and_eq_true,Bool.or_eq_true,beq_iff_eq]at h
  obtain⟨e,he,hb,h|h⟩:=h
  ·subst h;exact hp e (by simpa using he) hb
  ·have hl:=hp e (by simpa using he) hb
   cases ho2:l[e.on]? with
   | none =>
    cases f with
    | zero=>cases h
    | succ f=>unfold aheadB at h;rw[ho2]at h;cases h
   | some o2=>exact ahead_listed hc f k e.on h o2 ho2 (hc e.on o2 ho2 hl)
section
variable {P : Program} {Q : Exit→Act→World→Prop} {l : List Oper} {F : Nat→Value→World→Prop} {a0:Act} {w0:World} {fixed cons fin:List Bool}
end
def FixedF (f:Value→World→Prop):Prop:=∀ v w w',f v w→f v w'
theorem Is.fixed (x:Value):FixedF (Is x):=fun _ _ _ h=>h
open Go.RowKit Go.ChangeShapes Go.WideShapes
set_option linter.unusedVariables false
section
variable {H : Type} {enc:TypeId × Value→H} {P : Program} {w : World} {base:Nat} {held:Bool}
theorem spot_none {a : Addr} {v : Value} (h:w.cell? (a.add 0)=some v):a=⟨a.block,a.off,none⟩:=by
 obtain⟨b,o,s⟩:=a
 have h':w.cell? ⟨b,o,s⟩=some v:=by simpa [Addr.add]using h
 have:=World.cell?_spot h'
 simp at this
 simp[this]
theorem add_at {b o i:Nat}:(⟨b,o,none⟩:Addr).add i=⟨b,o+i,none⟩:=by
 unfold Addr.add
 split
 ·rename_i h;subst h;rfl
 ·rfl
theorem cell_lt {a : Addr} {v : Value} (h:w.cell? a=some v):a.block<w.heap.size:=by
 by_cases hlt:a.block<w.heap.size
 ·exact hlt
 ·exfalso
  unfold World.cell? at h
  rw[Array.getElem?_eq_none (by omega)]at h
  cases a.spot<;>simp at h
theorem nums_trod {t e:TypeId} {k : IntKind} {fuel:Nat} {v : Value} {x : DataW H × List MemPlace} (ht:P.underlying t=some (.slice e)) (he:P.underlying e=some (.int k)) (hc:P.cellsOf e=1)
  (h:DataW.trod enc P w base (fun _=>true) held fuel t [v]=some x):∃ l:List Int,Nums k w v l∧∀ n∈l,(Lit.int k n).wf=true:=by
 rcases Go.Deep.open_slice1 ht hc h with ⟨hv,_⟩|⟨a,len,cap,m,n,V,D,Pl,hv,_,hl,hm,hmm,_,hx⟩
 ·exact⟨[],.inl ⟨none,by simpa using hv,rfl⟩,fun n hn=>by cases hn⟩
 ·have hv:v=.slice (some a) len cap:=by simpa using hv
  obtain rfl:m=cap:=by simpa using hmm
  have hnum:∀ i,i<m→∃ z:Int,V i=.int k z∧(Lit.int k z).wf=true:=fun i hi=>by
   obtain⟨z,h1,_,h2⟩:=DataW.trod_int he (hx i hi).2
   exact⟨z,by simpa using h1,h2⟩
  obtain⟨Z,hZ⟩:=Go.Deep.choose_lt hnum
  by_cases h0:m=0
  ·have hl0:len=0:=by omega
   subst hl0;subst h0
   exact⟨[],.inl ⟨some a,hv,rfl⟩,fun n hn=>by cases hn⟩
  ·have h1:=(hx 0 (by omega)).1
   have hs:=spot_none h1
   have hb:=cell_lt h1
   have hb':a.block<w.heap.size:=by
    unfold Addr.add at hb;simpa using hb
   refine⟨(List.range len).map Z,.inr ⟨a.block,a.off,m,?_,by simpa using hl,hm,hb',?_⟩,?_⟩
   ·rw[hv,←hs];simp
   ·intro j z hj
    have hjl:j<len:=by
     have:=(List.getElem?_eq_some_iff.1 hj).1;simpa using this
    have hz:Z j=z:=by simpa [hjl]using hj
    have:=(hx j (by omega)).1
    rw[hs,add_at]at this
    rw[this,(hZ j (by omega)).1,hz]
   ·intro z hz
    obtain⟨i,hi,rfl⟩:=List.mem_map.1 hz
    have:=List.mem_range.1 hi
    exact (hZ i (by omega)).2
end
theorem Tryz.cellsInt:Tryz.prog.cellsOf 3=1:=by kernel_rfl
section
variable {H : Type} {enc:TypeId × Value→H} {w : World} {base:Nat} {held:Bool}
theorem int_field {P : Program} {t : TypeId} {k : IntKind} {fuel:Nat} {v : Value} {x : Option (DataW H × List MemPlace)} (ht:P.underlying t=some (.int k)) (hx:DataW.trod enc P w base (fun _=>true) held fuel t [v]=x) (hs:x.isSome=true) :
  ∃ n,v=.int k n∧(Lit.int k n).wf=true:=by
 obtain⟨y,rfl⟩:=Option.isSome_iff_exists.1 hs
 obtain⟨n,h1,_,h2⟩:=DataW.trod_int ht hx
 exact⟨n,by simpa using h1,h2⟩
end
def RowIn {α:Type} (f:α→List Value) (sz:Nat) (p:World→α→Prop) (w:World) (v:Value) (l:List α):Prop:=
 (∃ a,v=.slice a 0 0∧l=[])∨∃ b off cap,v=.slice (some ⟨b,off,none⟩) l.length cap∧l.length≤cap∧cap≤maxLen∧b<w.heap.size∧∀ (j:Nat) (x:α),l[j]? = some x→(∀ t,t<sz→w.cell? ⟨b,off+j*sz+t,none⟩=(f x)[t]?)∧p w x
theorem RowIn.keep {α:Type} {f : α→List Value} {sz:Nat} {p : World→α→Prop} (hp:∀ w w' x,p w x→Since w w'→p w' x) {w w':World} {v : Value} {l : List α} (h:RowIn f sz p w v l) (s:Since w w'):RowIn f sz p w' v l:=by
 rcases h with h|⟨b,off,cap,h1,h2,h3,h4,h5⟩
 ·exact .inl h
 ·exact .inr ⟨b,off,cap,h1,h2,h3,Nat.lt_of_lt_of_le h4 s.size,fun j x hj=>⟨fun t ht=>by rw[s.cell (p:=⟨b,off+j*sz+t,none⟩) h4];exact (h5 j x hj).1 t ht,hp _ _ _ (h5 j x hj).2 s⟩⟩
theorem RowIn.shape {α:Type} {f : α→List Value} {sz:Nat} {p : World→α→Prop} {w : World} {v : Value} {l : List α} (h:RowIn f sz p w v l):∃ a cap,v=.slice a l.length cap∧l.length≤maxLen:=by
 rcases h with ⟨a,h1,h2⟩|⟨b,off,cap,h1,h2,h3,_⟩
 ·subst h2;exact⟨a,0,h1,Nat.zero_le _⟩
 ·exact⟨_,cap,h1,by omega⟩
theorem RowIn.at {α:Type} {f : α→List Value} {sz:Nat} {p : World→α→Prop} {w : World} {a : Option Addr} {n cap:Nat} {l : List α} (h:RowIn f sz p w (.slice a n cap) l) {k : Nat} (hk:k<l.length) :
  ∃ b off x,a=some ⟨b,off,none⟩∧b<w.heap.size∧l[k]? = some x∧(∀ t,t<sz→w.cell? ⟨b,off+k*sz+t,none⟩=(f x)[t]?)∧p w x:=by
 rcases h with ⟨_,_,h2⟩|⟨b,off,cap',h1,_,_,h4,h5⟩
 ·subst h2;simp at hk
 ·cases h1
  have hx:l[k]? = some l[k]:=List.getElem?_eq_getElem hk
  exact⟨b,off,_,rfl,h4,hx,h5 k _ hx⟩
section
variable {H : Type} {enc:TypeId × Value→H} {P : Program} {w : World} {base:Nat} {held:Bool}
theorem row_trod {α:Type} [Inhabited α] {f : α→List Value} {sz:Nat} {p : World→α→Prop} {t e:TypeId} {fuel:Nat} {v : Value} {x : DataW H × List MemPlace} (ht:P.underlying t=some (.slice e)) (hc:P.cellsOf e=sz) (hsz:0<sz) (hf:∀ x,(f x).length=sz)
  (hone:∀ (fuel:Nat) (cs:List Value) (y:DataW H × List MemPlace),DataW.trod enc P w base (fun _=>true) held fuel e cs=some y→∃ x:α,cs=f x∧p w x)
  (h:DataW.trod enc P w base (fun _=>true) held fuel t [v]=some x):∃ l:List α,RowIn f sz p w v l:=by
 rcases Go.Deep.open_slice ht h with ⟨hv,_⟩|⟨a,len,cap,m,n,D,Pl,hv,_,hl,hm,hmm,_,hx⟩
 ·exact⟨[],.inl ⟨none,by simpa using hv,rfl⟩⟩
 ·have hv:v=.slice (some a) len cap:=by simpa using hv
  obtain rfl:m=cap:=by simpa using hmm
  rw[hc]at hx
  have hdat:∀ i,i<m→∃ y:α,(∀ t,t<sz→w.cell? ((a.add (i*sz)).add t)=(f y)[t]?)∧p w y:=fun i hi=>by
   obtain⟨cs',h1,h2⟩:=hx i hi
   obtain⟨y,rfl,hy⟩:=hone _ _ _ h2
   obtain⟨_,_,hcell⟩:=World.cells?_some h1
   exact⟨y,fun t ht=>hcell t ht,hy⟩
  obtain⟨Z,hZ⟩:=Go.Deep.choose_lt hdat
  by_cases h0:m=0
  ·have hl0:len=0:=by omega
   subst hl0;subst h0
   exact⟨[],.inl ⟨some a,hv,rfl⟩⟩
  ·have h1:=(hZ 0 (by omega)).1 0 hsz
   rw[List.getElem?_eq_getElem (by rw[hf];exact hsz)]at h1
   rw[Nat.zero_mul]at h1
   have h1':w.cell? ((a.add 0).add 0)=some _:=h1
   have hs:a=⟨a.block,a.off,none⟩:=by
    have:a.add 0=a:=by unfold Addr.add;simp
    rw[this]at h1'
    exact spot_none h1'
   have hb:=cell_lt h1'
   have hb':a.block<w.heap.size:=by
    have e1:((a.add 0).add 0).block=a.block:=by unfold Addr.add;simp
    rwa [e1]at hb
   refine⟨(List.range len).map Z,.inr ⟨a.block,a.off,m,?_,by simpa using hl,hm,hb',?_⟩⟩
   ·rw[hv,←hs];simp
   ·intro j y hj
    have hjl:j<len:=by
     have:=(List.getElem?_eq_some_iff.1 hj).1;simpa using this
    have hz:Z j=y:=by simpa [hjl]using hj
    obtain⟨g1,g2⟩:=hZ j (by omega)
    rw[hz]at g1 g2
    refine⟨fun t ht=>?_,g2⟩
    have:=g1 t ht
    rw[hs,add_at,add_at]at this
    exact this
end
def HeapIs (w:World) (q:Nat) (cs:Array Value) (T:TypeId):Prop:=w.heap[q]? = some (.cells cs T (0,0))
theorem HeapIs.cell {w : World} {q : Nat} {cs:Array Value} {T : TypeId} (h:HeapIs w q cs T) (i:Nat):w.cell? ⟨q,i,none⟩=cs[i]?:=by
 simp[World.cell?,show w.heap[q]? = _ from h]
theorem HeapIs.lt {w : World} {q : Nat} {cs:Array Value} {T : TypeId} (h:HeapIs w q cs T):q<w.heap.size:=(Array.getElem?_eq_some_iff.1 h).1
theorem HeapIs.keep {w w':World} {q : Nat} {cs:Array Value} {T : TypeId} (h:HeapIs w q cs T) (s:Since w w'):HeapIs w' q cs T:=(Below.block s q h.lt).trans h
theorem HeapIs.new (w:World) (cs:Array Value) (T:TypeId):HeapIs (w.alloc (.cells cs T)) w.heap.size cs T:=heap_last _ _
theorem HeapIs.set {w : World} {q : Nat} {cs:Array Value} {T : TypeId} (h:HeapIs w q cs T) (i:Nat) (x:Value):HeapIs (w.setCell ⟨q,i,none⟩ x) q (cs.setIfInBounds i x) T:=by
 unfold HeapIs at h ⊢
 simp[World.setCell,Array.getElem?_modify,h]
theorem HeapIs.frozen {w : World} {q : Nat} {cs:Array Value} {T : TypeId} (h:HeapIs w q cs T) (i:Nat):w.frozen? ⟨q,i,none⟩=false:=by
 simp[World.frozen?,show w.heap[q]? = _ from h]
abbrev BuF (B b:Nat) (p:Value) (bs:List Value) (w:World):Prop:=Lib.BuilderAtF 67 5 B b p bs w
abbrev Bu (B b:Nat) (l:List UInt8) (w:World):Prop:=Lib.IsBuilderF 67 5 B b (Lib.byteCells l) w
structure Kept (B b:Nat) (w w':World):Prop where
 below:Below B w w'
 others:Lib.OthersKept 5 (some b) w w'
theorem Kept.refl (B b:Nat) (w:World):Kept B b w w:=⟨Below.refl B w,Lib.OthersKept.refl _ _ w⟩
theorem Kept.trans {B b:Nat} {x y z:World} (h:Kept B b x y) (k:Kept B b y z):Kept B b x z:=⟨h.below.trans k.below,h.others.trans k.others⟩
theorem Tryz.infoByte:(Tryz.prog.info? 5).map (fun i=>(i.zero,i.size,i.bytes))=some (some (.int .u8 0),1,1):=by kernel_rfl
theorem Tryz.sizeBuilder:(Tryz.prog.info? 65).map (·.size)=some 2:=by kernel_rfl
theorem Tryz.liesBuilder:liesAt Tryz.prog Tryz.prog.depth 67 (2 / Tryz.prog.cellsOf 67) 0 65 1=true:=by kernel_rfl
set_option maxHeartbeats 1000000 in
set_option maxRecDepth 100000 in
theorem bu_used (b:Nat) (w:World) (h0:w.cell? ⟨b,0,none⟩=some (.pointer (some ⟨b,0,none⟩))) :
  Calls Tryz.prog 83 #[.pointer (some ⟨b,0,none⟩)] w fun e w'=>e=.returned (.tuple #[])∧w'=w:=by
 obtain⟨j,hj,_⟩:=Option.map_eq_some_iff.1 Tryz.sizeBuilder
 go_enter Tryz.func83,Tryz.ntmps83
 go_wp2
 rw[Lib.run_neq_ptr_same w _ Tryz.underlying62 hj]
 go_wp2
 go_end0
 exact⟨rfl,rfl⟩
set_option maxHeartbeats 1000000 in
set_option maxRecDepth 100000 in
theorem bu_fresh (b:Nat) (w:World) (h0:w.cell? ⟨b,0,none⟩=some (.pointer none)) (hsh:w.shape? b=some (67,2)) (hfz:w.frozen? ⟨b,0,none⟩=false) :
  Calls Tryz.prog 83 #[.pointer (some ⟨b,0,none⟩)] w fun e w'=>e=.returned (.tuple #[])∧w'=w.setCell ⟨b,0,none⟩ (.pointer (some ⟨b,0,none⟩)):=by
 obtain⟨j,hj,hjs⟩:=Option.map_eq_some_iff.1 Tryz.sizeBuilder
 go_enter Tryz.func83,Tryz.ntmps83
 go_wp2
 rw[Lib.run_to_unsafe w ⟨b,0,none⟩ Tryz.underlying62 Tryz.underlying170 hj (by rw[hjs];decide) hsh (Nat.zero_lt_succ 1)]
 simp only[Result.andThen]
 rw[Oper.upon_value]
 go_wp2
 rw[run_callFunc_extern Tryz.func108 (by kernel_rfl) (by kernel_rfl) (by kernel_rfl) (e:=Extern.AbiNoEscape.same) (by kernel_rfl)]
 rw[Lib.run_noEscape]
 simp only[Result.andThen]
 rw[Oper.upon_value]
 go_wp2
 rw[Lib.run_from_unsafe w ⟨b,0,none⟩ Tryz.underlying170 Tryz.underlying62 hj hsh Tryz.liesBuilder]
 simp only[Result.andThen]
 rw[Oper.upon_value]
 go_wp2
 go_end0
 exact⟨rfl,rfl⟩
theorem bu_check (B b:Nat) (bs:List Value) (w:World) (h:Lib.IsBuilderF 67 5 B b bs w) :
  Calls Tryz.prog 83 #[.pointer (some ⟨b,0,none⟩)] w fun e w'=>e=.returned (.tuple #[])∧BuF B b (.pointer (some ⟨b,0,none⟩)) bs w'∧Kept B b w w':=by
 rcases h with h|h
 ·refine (bu_fresh b w h.cell0 h.shape h.frozen0).mono ?_
  rintro e w' ⟨rfl,rfl⟩
  exact⟨rfl,h.used _,(Below.refl B w).setCell (p:=⟨b,0,none⟩) h.1 _,(Lib.OthersKept.refl _ _ w).setCell ⟨b,0,none⟩ rfl _⟩
 ·refine (bu_used b w h.cell0).mono ?_
  rintro e w' ⟨rfl,rfl⟩
  exact⟨rfl,h,Kept.refl B b _⟩
set_option maxHeartbeats 2000000 in
set_option maxRecDepth 100000 in
theorem bu_byte (B b:Nat) (bs:List Value) (c:Int) (w:World) (h:Lib.IsBuilderF 67 5 B b bs w) (hlen:bs.length+1≤140737488355328) (hBw:B≤w.heap.size) :
  Calls Tryz.prog 45 #[.pointer (some ⟨b,0,none⟩),.int .u8 c] w fun e w'=>e=.returned .nilIface∧BuF B b (.pointer (some ⟨b,0,none⟩)) (bs++[.int .u8 c]) w'∧Kept B b w w':=by
 obtain⟨i0,hi,hz0,hz1,hz2⟩:=info_parts Tryz.infoByte
 go_enter Tryz.func45,Tryz.ntmps45
 go_wp2_with (refine (bu_check B b bs _ h).mono ?_)
 rintro e w1 ⟨rfl,h1,hb1,hk1⟩
 obtain⟨hB,v,hbk,hown,hne⟩:=h1
 have c0:w1.cell? ⟨b,0,none⟩=some (.pointer (some ⟨b,0,none⟩)):=by rw[Lib.cell_of_heap hbk];rfl
 have c1:w1.cell? ⟨b,1,none⟩=some v:=by rw[Lib.cell_of_heap hbk];rfl
 go_wp2_with (at_builtin;refine wpList_append_ownF _ rfl _ _ 63 rfl B 5 i0 (.int .u8 0) 1 1 Tryz.underlying63 hi hz0 hz1 hz2 rfl (by decide) _ _ _ rfl (hown.alloc _) ⟨w1.heap.size,0,none⟩ 1 1 [.int .u8 c] rfl rfl ?c1 ?c2 ?c3 ?c4 ?c5 ?_)
 case c1 =>
  intro j u hj
  match j,hj with
  | 0,hj=>simp at hj;subst hj;simp[Addr.add]
 case c2=>intro u hu;simp at hu;subst hu;rfl
 case c3=>unfold maxLen;omega
 case c4=>omega
 case c5=>have:=hb1.size;simp;omega
 intro v' w2 hown' hgrow _
 have hlt:b<w1.heap.size:=by
  rcases Nat.lt_or_ge b w1.heap.size with h'|h'
  ·exact h'
  ·simp[Array.getElem?_eq_none h']at hbk
 have hb2:w2.heap[b]? = some (.cells #[.pointer (some ⟨b,0,none⟩),v] 67 (0,0)):=by
  rw[hgrow.block b (by simp;omega) (fun e=>hne e.symm),Lib.alloc_old w1 _ b hlt]
  exact hbk
 have d0:w2.cell? ⟨b,0,none⟩=some (.pointer (some ⟨b,0,none⟩)):=by rw[Lib.cell_of_heap hb2];rfl
 have d1:w2.cell? ⟨b,1,none⟩=some v:=by rw[Lib.cell_of_heap hb2];rfl
 have f1:w2.frozen? ⟨b,1,none⟩=false:=Lib.frozen_of_heap hb2 1
 obtain⟨g,cap,rfl⟩:∃ g cap,v'=.slice (some ⟨g,0,none⟩) (bs.length+1) cap:=by
  rcases hown'.2 with ⟨_,h0⟩|⟨g,cap,cur,fz,hv,_⟩
  ·omega
  ·exact⟨g,cap,hv⟩
 go_wp2
 go_ret
 refine⟨rfl,?_,?_,((hk1.alloc _).grown hgrow (Lib.ownsRowF_kind (hown.alloc _))).setCell ⟨b,1,none⟩ rfl _⟩
 ·exact Lib.BuilderAtF.put (T:=67) (e:=5) hB hb2 (bs':=bs++[.int .u8 c]) (by simpa using hown') (by decide)
 ·exact ((hb1.alloc (by have:=hb1.size;omega) _).grown hgrow (by have:=hb1.size;simp;omega) (fun k hk=>(hown.lt k hk).1)).setCell (p:=⟨b,1,none⟩) hB _
set_option maxHeartbeats 2000000 in
set_option maxRecDepth 100000 in
theorem bu_string (B b:Nat) (bs:List Value) (s:ByteArray) (w:World) (h:Lib.IsBuilderF 67 5 B b bs w) (hlen:bs.length+s.size≤140737488355328) (hBw:B≤w.heap.size) :
  Calls Tryz.prog 43 #[.pointer (some ⟨b,0,none⟩),.string s] w fun e w'=>e=.returned (.tuple #[.int .i64 s.size,.nilIface])∧BuF B b (.pointer (some ⟨b,0,none⟩)) (bs++Lib.strCells s) w'∧Kept B b w w':=by
 obtain⟨i0,hi,hz0,hz1,hz2⟩:=info_parts Tryz.infoByte
 go_enter Tryz.func43,Tryz.ntmps43
 go_wp2_with (refine (bu_check B b bs _ h).mono ?_)
 rintro e w1 ⟨rfl,h1,hb1,hk1⟩
 obtain⟨hB,v,hbk,hown,hne⟩:=h1
 have c0:w1.cell? ⟨b,0,none⟩=some (.pointer (some ⟨b,0,none⟩)):=by rw[Lib.cell_of_heap hbk];rfl
 have c1:w1.cell? ⟨b,1,none⟩=some v:=by rw[Lib.cell_of_heap hbk];rfl
 go_wp2_with (at_builtin;refine Lib.wpList_append_own_stringF _ rfl _ _ 63 9 rfl B 5 i0 Tryz.underlying63 Tryz.underlying9 hi hz0 hz1 hz2 _ _ _ rfl hown s rfl ?c3 ?c4 ?c5 ?_)
 case c3=>unfold maxLen;omega
 case c4=>omega
 case c5=>have:=hb1.size;omega
 intro v' w2 hown' hgrow _
 have hlt:b<w1.heap.size:=by
  rcases Nat.lt_or_ge b w1.heap.size with h'|h'
  ·exact h'
  ·simp[Array.getElem?_eq_none h']at hbk
 have hb2:w2.heap[b]? = some (.cells #[.pointer (some ⟨b,0,none⟩),v] 67 (0,0)):=by
  rw[hgrow.block b hlt (fun e=>hne e.symm)]
  exact hbk
 have d0:w2.cell? ⟨b,0,none⟩=some (.pointer (some ⟨b,0,none⟩)):=by rw[Lib.cell_of_heap hb2];rfl
 have d1:w2.cell? ⟨b,1,none⟩=some v:=by rw[Lib.cell_of_heap hb2];rfl
 have f1:w2.frozen? ⟨b,1,none⟩=false:=Lib.frozen_of_heap hb2 1
 obtain⟨ao,n',cap,rfl⟩:∃ ao n' cap,v'=.slice ao n' cap:=by
  rcases hown'.2 with ⟨hv,_⟩|⟨g,cap,cur,fz,hv,_⟩
  ·exact⟨_,_,_,hv⟩
  ·exact⟨_,_,_,hv⟩
 go_wp2
 go_ret2
 refine⟨rfl,?_,?_,(hk1.grown hgrow (Lib.ownsRowF_kind hown)).setCell ⟨b,1,none⟩ rfl _⟩
 ·exact Lib.BuilderAtF.put (T:=67) (e:=5) hB hb2 (bs':=bs++Lib.strCells s) (by simpa [Lib.strCells_length]using hown') (by decide)
 ·exact (hb1.grown hgrow (by have:=hb1.size;omega) (fun k hk=>(hown.lt k hk).1)).setCell (p:=⟨b,1,none⟩) hB _
def SaysQ (B b:Nat) (l:List UInt8) (w:World) (e:Ending) (w':World):Prop:=e=.returned (.string ⟨l.toArray⟩)∧Kept B b w w'
set_option maxHeartbeats 1000000 in
set_option maxRecDepth 100000 in
theorem bu_says (B b:Nat) (l:List UInt8) (w:World) (h:Bu B b l w) (h0:l≠[]) :
  Calls Tryz.prog 26 #[.pointer (some ⟨b,0,none⟩)] w (SaysQ B b l w):=by
 obtain⟨p,hB,v,hbk,hown,hne⟩:∃ p,BuF B b p (Lib.byteCells l) w:=by
  rcases h with h|h
  ·exact⟨_,h⟩
  ·exact⟨_,h⟩
 have hl0:l.length≠0:=by simpa using h0
 rw[Lib.byteCells_length]at hown
 obtain⟨g,cap,cur,fz,rfl,hbg,hg,hfz,hnc,hcm,hcs,htake⟩:∃ g cap cur fz,v=.slice (some ⟨g,0,none⟩) l.length cap∧B≤g∧w.heap[g]? = some (.cells cur 5 fz)∧fz.2≤l.length*1∧l.length≤cap∧cap≤maxLen∧cur.size=cap*1∧cur.toList.take (l.length*1)=Lib.byteCells l:=by
  rcases hown.2 with ⟨_,hz⟩|⟨g,cap,cur,fz,hv,r⟩
  ·exact absurd hz hl0
  ·exact⟨g,cap,cur,fz,hv,r⟩
 have c1:w.drew.cell? ⟨b,1,none⟩=some (.slice (some ⟨g,0,none⟩) l.length cap):=by
  have:w.drew.heap[b]? = some (.cells #[p,.slice (some ⟨g,0,none⟩) l.length cap] 67 (0,0)):=hbk
  rw[Lib.cell_of_heap this];rfl
 have hSD:(Builtin.unsafeSliceData_ #[63] 110 #[.slice (some ⟨g,0,none⟩) l.length cap]).run Tryz.prog w.drew=.ok (.pointer (some ⟨g,0,none⟩)) w.drew:=
  Lib.run_unsafeSliceData_row _ _ _ _ _ _ (by omega)
 have hUS:(Builtin.unsafeString_ #[110,3] 9 #[.pointer (some ⟨g,0,none⟩),.int .i64 l.length]).run Tryz.prog w.drew=.ok (.string ⟨l.toArray⟩) (w.drew.freeze ⟨g,0,none⟩ l.length):=by
  refine Lib.run_unsafeString_row w.drew 110 3 9 5 Tryz.underlying110 (by kernel_rfl) g cur.size (by have hg':w.drew.heap[g]? = some (.cells cur 5 fz):=hg;simp[World.shape?,hg']) l h0 (by omega) (by unfold maxLen at hcm;omega) ?_
  intro j x hx
  have:=hown.cells (g:=g) rfl j (.int .u8 x.toNat) (by simp[Lib.byteCells,hx])
  exact this
 go_enter Tryz.func26,Tryz.ntmps26
 go_wp2
 go_region
 all_goals (go_wp2;go_ret;exact⟨rfl,Lib.below_freeze (Below.drew (Below.refl B w)) (p:=⟨g,0,none⟩) hbg _,((Lib.OthersKept.refl _ _ w).drew).freeze ⟨g,0,none⟩ _ ⟨cur,fz,hg⟩⟩)
end Go.Proofs.YtmhojfpidedjeaaGreatDoor
