/- Rows of structs of the call's own: each datum is a list of cells. The rule of XRegion, for regions in which a value is used up: an operation that may write a row of the call's own (an append) keeps what is fixed, and what nobody that may still come asks for. How rows of data that came in are read; r -/
import Derived.Test.YtmhojfpidedjeaaGreatDoorTq00
import Derived.Test.YtmhojfpidedjeaaGreatDoorTq02
import Derived.Deep.Slices
import Derived.WideShapes
import Derived.Deep.LoopGhost
namespace Go.Proofs.YtmhojfpidedjeaaGreatDoor
open Go.RowKit
theorem flat_at {α:Type} (f:α→List Value) (sz:Nat) (hf:∀ x,(f x).length=sz):∀ (l:List α) (j t:Nat) (x:α),l[j]? = some x→t<sz→(l.flatMap f)[j*sz+t]? = (f x)[t]?
 | [],_,_,_,h,_=>by cases h
 | y::r,0,t,x,h,ht=>by
  obtain rfl:y=x:=by simpa using h
  rw[List.flatMap_cons,List.getElem?_append_left (by rw[hf];omega)]
  simp
 | y::r,j+1,t,x,h,ht=>by
  rw[List.flatMap_cons,List.getElem?_append_right (by rw[hf,Nat.succ_mul];omega),hf,show (j+1)*sz+t-sz=j*sz+t from by rw[Nat.succ_mul];omega]
  exact flat_at f sz hf r j t x (by simpa using h) ht
theorem flat_len {α:Type} (f:α→List Value) (sz:Nat) (hf:∀ x,(f x).length=sz):∀ (l:List α),(l.flatMap f).length=l.length*sz
 | []=>by simp
 | y::r=>by rw[List.flatMap_cons,List.length_append,hf,flat_len f sz hf r,List.length_cons,Nat.succ_mul];omega
theorem own_keep {w w':World} {base:Nat} {e : TypeId} {size n:Nat} {v : Value} {xs:List Value} (h:w.ownsRow base e size v n xs) (s:Since w w'):w'.ownsRow base e size v n xs:=by
 obtain⟨h0,h|⟨g,cap,cur,h1,h2,h3,h4⟩⟩:=h
 ·exact⟨h0,.inl h⟩
 ·exact⟨h0,.inr ⟨g,cap,cur,h1,h2,(Below.block s g (Array.getElem?_eq_some_iff.1 h3).1).trans h3,h4⟩⟩
def OwnRow {α:Type} (f:α→List Value) (sz:Nat) (e:TypeId) (base:Nat) (w:World) (v:Value) (l:List α):Prop:=w.ownsRow base e sz v l.length (l.flatMap f)
theorem OwnRow.keep {α:Type} {f : α→List Value} {sz:Nat} {e : TypeId} {base:Nat} {w w':World} {v : Value} {l : List α} (h:OwnRow f sz e base w v l) (s:Since w w'):OwnRow f sz e base w' v l:=own_keep h s
theorem OwnRow.nil {α:Type} (f:α→List Value) (sz:Nat) (e:TypeId) (base:Nat) (w:World):OwnRow f sz e base w (.slice none 0 0) []:=⟨by simp,.inl ⟨rfl,rfl⟩⟩
theorem OwnRow.shape {α:Type} {f : α→List Value} {sz:Nat} {e : TypeId} {base:Nat} {w : World} {v : Value} {l : List α} (h:OwnRow f sz e base w v l):∃ a cap,v=.slice a l.length cap:=by
 obtain⟨_,⟨hv,hn⟩|⟨g,cap,cur,hv,_⟩⟩:=h
 ·exact⟨none,0,by rw[hv,hn]⟩
 ·exact⟨_,cap,hv⟩
theorem OwnRow.cells {α:Type} {f : α→List Value} {sz:Nat} (hf:∀ x,(f x).length=sz) {e : TypeId} {base:Nat} {w : World} {v : Value} {l : List α} (h:OwnRow f sz e base w v l) :
  (v=.slice none 0 0∧l=[])∨∃ g cap,v=.slice (some ⟨g,0,none⟩) l.length cap∧l.length≤cap∧cap≤maxLen∧base≤g∧g<w.heap.size∧∀ (j t:Nat) (x:α),l[j]? = some x→t<sz→w.cell? ⟨g,j*sz+t,none⟩=(f x)[t]?:=by
 obtain⟨_,⟨hv,hn⟩|⟨g,cap,cur,hv,hb,hg,hc,hm,hs,htake⟩⟩:=h
 ·exact .inl ⟨hv,List.length_eq_zero_iff.1 hn⟩
 ·refine .inr ⟨g,cap,hv,hc,hm,hb,(Array.getElem?_eq_some_iff.1 hg).1,fun j t x hj ht=>?_⟩
  have hlt:j<l.length:=(List.getElem?_eq_some_iff.1 hj).1
  have hle:j*sz+t<l.length*sz:=by
   have:(j+1)*sz≤l.length*sz:=Nat.mul_le_mul_right _ hlt
   rw[Nat.succ_mul]at this;omega
  have e1:=congrArg (fun x=>x[j*sz+t]?) htake
  simp only[List.getElem?_take_of_lt hle,flat_at f sz hf l j t x hj ht]at e1
  simp only[World.cell?,hg]
  simpa using e1
def predB (l:List Oper) (j i:Nat):Bool:=match l[i]? with
 | some o=>o.after.toList.any fun e=>e.on==j&&Region.binds .any e
 | none=>false
def aheadB (l:List Oper):Nat→Nat→Nat→Bool
 | 0,_,_=>false
 | f+1,k,i=>match l[i]? with
  | some o=>o.after.toList.any fun e=>Region.binds .any e&&(e.on==k||aheadB l f k e.on)
  | none=>false
def Closed (l:List Oper) (listed:Array Bool):Prop:=∀ (i:Nat) (o:Oper),l[i]? = some o→listed.getD i false=true→∀ e∈o.after,Region.binds .any e=true→listed.getD e.on false=true
theorem ahead_listed {l : List Oper} {listed:Array Bool} (hc:Closed l listed):∀ (f k i:Nat),aheadB l f k i=true→∀ o,l[i]? = some o→(∀ e∈o.after,Region.binds .any e=true→listed.getD e.on false=true)→listed.getD k false=true
 | 0,_,_,h,_,_,_=>by cases h
 | f+1,k,i,h,o,ho,hp=>by
  unfold aheadB at h
  rw[ho]at h
  simp only[List.any_eq_true,Bool.and_eq_true,Bool.or_eq_true,beq_iff_eq]at h
  obtain⟨e,he,hb,h|h⟩:=h
  ·subst h;exact hp e (by simpa using he) hb
  ·have hl:=hp e (by simpa using he) hb
   cases ho2:l[e.on]? with
   | none =>
    cases f with
    | zero=>cases h
    | succ f=>unfold aheadB at h;rw[ho2]at h;cases h
   | some o2=>exact ahead_listed hc f k e.on h o2 ho2 (hc e.on o2 ho2 hl)
section
variable {P : Program} {Q : Exit→Act→World→Prop} {l : List Oper} {F : Nat→Value→World→Prop} {a0:Act} {w0:World} {fixed cons fin:List Bool}
end
def FixedF (f:Value→World→Prop):Prop:=∀ v w w',f v w→f v w'
theorem Is.fixed (x:Value):FixedF (Is x):=fun _ _ _ h=>h
open Go.RowKit Go.ChangeShapes Go.WideShapes
set_option linter.unusedVariables false
section
variable {H : Type} {enc:TypeId × Value→H} {P : Program} {w : World} {base:Nat} {held:Bool}
theorem spot_none {a : Addr} {v : Value} (h:w.cell? (a.add 0)=some v):a=⟨a.block,a.off,none⟩:=by
 obtain⟨b,o,s⟩:=a
 have h':w.cell? ⟨b,o,s⟩=some v:=by simpa [Addr.add]using h
 have:=World.cell?_spot h'
 simp at this
 simp[this]
theorem add_at {b o i:Nat}:(⟨b,o,none⟩:Addr).add i=⟨b,o+i,none⟩:=by
 unfold Addr.add
 split
 ·rename_i h;subst h;rfl
 ·rfl
theorem cell_lt {a : Addr} {v : Value} (h:w.cell? a=some v):a.block<w.heap.size:=by
 by_cases hlt:a.block<w.heap.size
 ·exact hlt
 ·exfalso
  unfold World.cell? at h
  rw[Array.getElem?_eq_none (by omega)]at h
  cases a.spot<;>simp at h
theorem nums_trod {t e:TypeId} {k : IntKind} {fuel:Nat} {v : Value} {x : DataW H × List MemPlace} (ht:P.underlying t=some (.slice e)) (he:P.underlying e=some (.int k)) (hc:P.cellsOf e=1)
  (h:DataW.trod enc P w base (fun _=>true) held fuel t [v]=some x):∃ l:List Int,Nums k w v l∧∀ n∈l,(Lit.int k n).wf=true:=by
 rcases Go.Deep.open_slice1 ht hc h with ⟨hv,_⟩|⟨a,len,cap,m,n,V,D,Pl,hv,_,hl,hm,hmm,_,hx⟩
 ·exact⟨[],.inl ⟨none,by simpa using hv,rfl⟩,fun n hn=>by cases hn⟩
 ·have hv:v=.slice (some a) len cap:=by simpa using hv
  obtain rfl:m=cap:=by simpa using hmm
  have hnum:∀ i,i<m→∃ z:Int,V i=.int k z∧(Lit.int k z).wf=true:=fun i hi=>by
   obtain⟨z,h1,_,h2⟩:=DataW.trod_int he (hx i hi).2
   exact⟨z,by simpa using h1,h2⟩
  obtain⟨Z,hZ⟩:=Go.Deep.choose_lt hnum
  by_cases h0:m=0
  ·have hl0:len=0:=by omega
   subst hl0;subst h0
   exact⟨[],.inl ⟨some a,hv,rfl⟩,fun n hn=>by cases hn⟩
  ·have h1:=(hx 0 (by omega)).1
   have hs:=spot_none h1
   have hb:=cell_lt h1
   have hb':a.block<w.heap.size:=by
    unfold Addr.add at hb;simpa using hb
   refine⟨(List.range len).map Z,.inr ⟨a.block,a.off,m,?_,by simpa using hl,hm,hb',?_⟩,?_⟩
   ·rw[hv,←hs];simp
   ·intro j z hj
    have hjl:j<len:=by
     have:=(List.getElem?_eq_some_iff.1 hj).1;simpa using this
    have hz:Z j=z:=by simpa [hjl]using hj
    have:=(hx j (by omega)).1
    rw[hs,add_at]at this
    rw[this,(hZ j (by omega)).1,hz]
   ·intro z hz
    obtain⟨i,hi,rfl⟩:=List.mem_map.1 hz
    have:=List.mem_range.1 hi
    exact (hZ i (by omega)).2
end
theorem Tryz.cellsInt:Tryz.prog.cellsOf 3=1:=by kernel_rfl
section
variable {H : Type} {enc:TypeId × Value→H} {w : World} {base:Nat} {held:Bool}
theorem int_field {P : Program} {t : TypeId} {k : IntKind} {fuel:Nat} {v : Value} {x : Option (DataW H × List MemPlace)} (ht:P.underlying t=some (.int k)) (hx:DataW.trod enc P w base (fun _=>true) held fuel t [v]=x) (hs:x.isSome=true) :
  ∃ n,v=.int k n∧(Lit.int k n).wf=true:=by
 obtain⟨y,rfl⟩:=Option.isSome_iff_exists.1 hs
 obtain⟨n,h1,_,h2⟩:=DataW.trod_int ht hx
 exact⟨n,by simpa using h1,h2⟩
end
def RowIn {α:Type} (f:α→List Value) (sz:Nat) (p:World→α→Prop) (w:World) (v:Value) (l:List α):Prop:=
 (∃ a,v=.slice a 0 0∧l=[])∨∃ b off cap,v=.slice (some ⟨b,off,none⟩) l.length cap∧l.length≤cap∧cap≤maxLen∧b<w.heap.size∧∀ (j:Nat) (x:α),l[j]? = some x→(∀ t,t<sz→w.cell? ⟨b,off+j*sz+t,none⟩=(f x)[t]?)∧p w x
theorem RowIn.keep {α:Type} {f : α→List Value} {sz:Nat} {p : World→α→Prop} (hp:∀ w w' x,p w x→Since w w'→p w' x) {w w':World} {v : Value} {l : List α} (h:RowIn f sz p w v l) (s:Since w w'):RowIn f sz p w' v l:=by
 rcases h with h|⟨b,off,cap,h1,h2,h3,h4,h5⟩
 ·exact .inl h
 ·exact .inr ⟨b,off,cap,h1,h2,h3,Nat.lt_of_lt_of_le h4 s.size,fun j x hj=>⟨fun t ht=>by rw[s.cell (p:=⟨b,off+j*sz+t,none⟩) h4];exact (h5 j x hj).1 t ht,hp _ _ _ (h5 j x hj).2 s⟩⟩
theorem RowIn.shape {α:Type} {f : α→List Value} {sz:Nat} {p : World→α→Prop} {w : World} {v : Value} {l : List α} (h:RowIn f sz p w v l):∃ a cap,v=.slice a l.length cap∧l.length≤maxLen:=by
 rcases h with ⟨a,h1,h2⟩|⟨b,off,cap,h1,h2,h3,_⟩
 ·subst h2;exact⟨a,0,h1,Nat.zero_le _⟩
 ·exact⟨_,cap,h1,by omega⟩
theorem RowIn.at {α:Type} {f : α→List Value} {sz:Nat} {p : World→α→Prop} {w : World} {a : Option Addr} {n cap:Nat} {l : List α} (h:RowIn f sz p w (.slice a n cap) l) {k : Nat} (hk:k<l.length) :
  ∃ b off x,a=some ⟨b,off,none⟩∧b<w.heap.size∧l[k]? = some x∧(∀ t,t<sz→w.cell? ⟨b,off+k*sz+t,none⟩=(f x)[t]?)∧p w x:=by
 rcases h with ⟨_,_,h2⟩|⟨b,off,cap',h1,_,_,h4,h5⟩
 ·subst h2;simp at hk
 ·cases h1
  have hx:l[k]? = some l[k]:=List.getElem?_eq_getElem hk
  exact⟨b,off,_,rfl,h4,hx,h5 k _ hx⟩
section
variable {H : Type} {enc:TypeId × Value→H} {P : Program} {w : World} {base:Nat} {held:Bool}
end
def LeftR (R:World→World→Prop) (F:Nat→Value→World→Prop) (i:Nat) (dst:Option Tmp) (a:Act) (w:World) (a':Act) (w':World):Prop:=∃ v,a'=a.put dst v∧F i v w'∧R w w'
def OneQR (R:World→World→Prop) (Q:Exit→Act→World→Prop) (F:Nat→Value→World→Prop) (i:Nat) (dst:Option Tmp) (a:Act) (w:World):Exit→Act→World→Prop
 | .normal,a',w'=>LeftR R F i dst a w a' w'
 | e,a',w'=>Q e a' w'
section
variable {P : Program} {Q : Exit→Act→World→Prop} {l : List Oper} {F : Nat→Value→World→Prop} {a0:Act} {w0:World} {R : World→World→Prop}
end
def StepsT (R:World→World→Prop) (P:Program) (ops:Array Oper) (l:List Oper) (Q:Exit→Act→World→Prop) (F:Nat→Value→World→Prop) (a0:Act) (w0:World):List Oper→Nat→Prop
 | [],_=>True
 | o::r,k=>(∀ (vs:Nat→Value) (w:World),R w0 w→Knows F vs w o.after.toList→(∀ j,predB l k j=true→vs j=oldAt l a0 j) →
   wpList P ops (OneQR R Q F k o.dst (putAll l 0 vs a0) w) [o] (putAll l 0 vs a0) w)∧StepsT R P ops l Q F a0 w0 r (k+1)
theorem stepsT_at {R : World→World→Prop} {P : Program} {ops:Array Oper} {l0:List Oper} {Q : Exit→Act→World→Prop} {F : Nat→Value→World→Prop} {a0:Act} {w0:World}:∀ (l:List Oper) (k:Nat),StepsT R P ops l0 Q F a0 w0 l k→∀ (i:Nat) (o:Oper),l[i]? = some o→ops[k+i]? = some o →
  ∀ (vs:Nat→Value) (w:World),R w0 w→Knows F vs w o.after.toList→(∀ j,predB l0 (k+i) j=true→vs j=oldAt l0 a0 j)→∀ K:Act→World→Prop,(∀ a' w',LeftR R F (k+i) o.dst (putAll l0 0 vs a0) w a' w'→K a' w') →
   wpOp P ops Q (k+i) K (putAll l0 0 vs a0) w
 | [],_,_,_,_,h,_=>by cases h
 | p::r,k,h,0,o,ho,hall=>by
  obtain rfl:p=o:=by simpa using ho
  intro vs w hw hk hold K hK
  have:=h.1 vs w hw hk hold
  unfold wpOp
  rw[hall]
  simp only[wpList]at this
  show if _ then _ else _
  split
  ·rename_i hwant
   rw[if_pos hwant]at this
   rcases this with this|⟨h1,h2⟩
   ·exact .inl (Oper.wp_turn (fun _ _ _ h=>h) (fun h=>h) (Oper.wp_mono (fun a' w' h=>hK a' w' h) this))
   ·exact .inr ⟨h1,h2⟩
  ·rename_i hwant
   rw[if_neg hwant]at this
   exact hK _ _ this
 | p::r,k,h,i+1,o,ho,hall=>by
  have:=stepsT_at r (k+1) h.2 i o (by simpa using ho) (by rw[show k+1+i=k+(i+1) from by omega];exact hall)
  rw[show k+1+i=k+(i+1) from by omega]at this
  exact this
def forcedA (all:List Oper) (n:Nat):Bool:=
 (List.range all.length).all fun k=>decide (k<n)||(List.range k).all fun i=>predB all i k||aheadB all all.length i k
theorem forced_listed {all:List Oper} {n : Nat} (hf:forcedA all n=true) {listed:Array Bool} (hc:Closed all listed) {k : Nat} {o : Oper} (ho:all[k]? = some o) (hk:n≤k) (hp:∀ e∈o.after,Region.binds .any e=true→listed.getD e.on false=true) {i : Nat} (hi:i<k):listed.getD i false=true:=by
 unfold forcedA at hf
 rw[List.all_eq_true]at hf
 have h1:=hf k (List.mem_range.2 (List.getElem?_eq_some_iff.1 ho).1)
 rw[Bool.or_eq_true,decide_eq_true_eq]at h1
 rcases h1 with h1|h1
 ·omega
 rw[List.all_eq_true]at h1
 have h2:=h1 i (List.mem_range.2 hi)
 rw[Bool.or_eq_true]at h2
 rcases h2 with h2|h2
 ·unfold predB at h2
  rw[ho]at h2
  simp only[List.any_eq_true,Bool.and_eq_true,beq_iff_eq]at h2
  obtain⟨e,he,heq,hb⟩:=h2
  rw[←heq]
  exact hp e (by simpa using he) hb
 ·exact ahead_listed hc _ _ _ h2 o ho hp
section
variable {P : Program} {Q : Exit→Act→World→Prop} {l t0:List Oper} {F : Nat→Value→World→Prop} {a0:Act} {w0:World} {R : World→World→Prop}
theorem same_getD {listed:Array Bool} {i : Nat} (h:i<listed.size):listed.getD i false=listed.getD i true:=by
 rw[Array.getD_eq_getD_getElem?,Array.getD_eq_getD_getElem?,Array.getElem?_eq_getElem h];rfl
theorem run_tail {all:List Oper} {n0:Nat} (hb:edgesBack all 0=true) (hall:all.drop n0=t0) (hf:forcedA all n0=true):∀ (t:List Oper) (k:Nat),t0.drop k=t→n0+k≤all.length →
  ∀ (fuel:Nat) (listed:Array Bool) (a:Act) (w:World),listed.size=all.length→((List.range all.length).filter fun i=>!listed.getD i true).length≤fuel →
   (∀ i,i<n0+k→listed.getD i true=true)→(∀ i,n0+k≤i→i<all.length→listed.getD i true=false)→wpList P all.toArray Q t a w→wpAny P .any all.toArray Q fuel listed a w:=by
 intro t
 induction t with
 | nil =>
  intro k hk hkl fuel listed a w hsz hfu h1 h2 hw
  have hlen:all.length≤n0+k:=by
   have:(t0.drop k).length=0:=by rw[hk];rfl
   rw[←hall,List.length_drop,List.length_drop]at this
   omega
  have hr:Region.ready .any all.toArray listed=[]:=by
   rw[List.eq_nil_iff_forall_not_mem]
   intro i hi
   rw[mem_ready]at hi
   obtain⟨h3,o,ho,_⟩:=hi
   have hlt:i<all.length:=by simpa using (Array.getElem?_eq_some_iff.1 ho).1
   rw[h1 i (by omega)]at h3
   cases h3
  cases fuel with
  | zero=>exact⟨hr,hw⟩
  | succ fuel=>exact⟨fun _=>hw,fun i hi=>by rw[hr]at hi;cases hi⟩
 | cons o r ih =>
  intro k hk hkl fuel listed a w hsz hfu h1 h2 hw
  have hok:all[n0+k]? = some o:=by
   have e:(t0.drop k)[0]? = some o:=by rw[hk];rfl
   rw[←hall,List.drop_drop,List.getElem?_drop]at e
   simpa using e
  have hlt:n0+k<all.length:=(List.getElem?_eq_some_iff.1 hok).1
  have hmem:n0+k∈(List.range all.length).filter fun i=>!listed.getD i true:=by
   rw[List.mem_filter];exact⟨List.mem_range.2 hlt,by rw[h2 _ (Nat.le_refl _) hlt];rfl⟩
  have hpos:=List.length_pos_of_mem hmem
  cases fuel with
  | zero=>omega
  | succ fuel =>
   refine⟨fun hr=>?_,fun i hi=>?_⟩
   ·exfalso
    have:n0+k∈Region.ready .any all.toArray listed:=by
     rw[mem_ready]
     refine⟨h2 _ (Nat.le_refl _) hlt,o,by simpa using hok,fun e he hbd=>?_⟩
     have:=edges_back all 0 hb (n0+k) o hok e he hbd
     rw[same_getD (by omega)]
     exact h1 _ (by omega)
    rw[hr]at this
    cases this
   ·rw[mem_ready]at hi
    obtain⟨h3,p,hp,hpre⟩:=hi
    have hpl:all[i]? = some p:=by simpa using hp
    have hil:i<all.length:=(List.getElem?_eq_some_iff.1 hpl).1
    have hge:n0+k≤i:=by
     by_cases hlt2:i<n0+k
     ·rw[h1 i hlt2]at h3;cases h3
     ·omega
    obtain rfl:i=n0+k:=by
     by_cases he:i=n0+k
     ·exact he
     ·exfalso
      have hc:Closed all listed:=by
       intro j q hq hlj e he hbd
       have hjl:j<all.length:=(List.getElem?_eq_some_iff.1 hq).1
       have hej:=edges_back all 0 hb j q hq e he hbd
       rw[same_getD (by omega)]at hlj ⊢
       by_cases hjk:j<n0+k
       ·exact h1 _ (by omega)
       ·rw[h2 j (by omega) hjl]at hlj;cases hlj
      have:=forced_listed hf hc hpl (by omega) hpre (i:=n0+k) (by omega)
      rw[same_getD (by omega),h2 _ (Nat.le_refl _) hlt]at this
      cases this
    have:=hpl.symm.trans hok
    cases this
    have hnext:∀ a' w',wpList P all.toArray Q r a' w'→wpAny P .any all.toArray Q fuel (listed.setIfInBounds (n0+k) true) a' w':=by
     intro a' w' hw'
     refine ih (k+1) (by rw[←List.drop_drop,hk];rfl) (by omega) fuel _ a' w' (by simpa using hsz) ?_ ?_ ?_ hw'
     ·have e2:((List.range all.length).filter fun j=>!(listed.setIfInBounds (n0+k) true).getD j true)=((List.range all.length).filter fun j=>!listed.getD j true).filter fun j=>j != n0+k:=by
       rw[List.filter_filter]
       refine List.filter_congr fun j hj=>?_
       by_cases hji:j=n0+k
       ·subst hji
        have hin:n0+k<listed.size:=by omega
        simp[Array.getD_eq_getD_getElem?,hin]
       ·rw[getD_set_ne _ (Ne.symm hji)];simp[hji]
      rw[e2]
      have:=(List.length_filter_lt_length_iff_exists (p:=fun j=>j != n0+k) (l:=(List.range all.length).filter fun j=>!listed.getD j true)).2 ⟨n0+k,hmem,by simp⟩
      omega
     ·intro j hj
      by_cases hji:j=n0+k
      ·subst hji
       have hin:n0+k<listed.size:=by omega
       simp[Array.getD_eq_getD_getElem?,hin]
      ·rw[getD_set_ne _ (Ne.symm hji)];exact h1 j (by omega)
     ·intro j hj hjl
      rw[getD_set_ne _ (by omega)];exact h2 j (by omega) hjl
    unfold wpOp
    rw[hp]
    simp only[wpList]at hw
    show if _ then _ else _
    split
    ·rename_i hwant
     rw[if_pos hwant]at hw
     rcases hw with hw|⟨g1,g2⟩
     ·exact .inl (Oper.wp_mono hnext hw)
     ·exact .inr ⟨g1,g2⟩
    ·rename_i hwant
     rw[if_neg hwant]at hw
     exact hnext _ _ hw
theorem any_factsT (hRt:∀ a b c,R a b→R b c→R a c) (hF:∀ i v w w',F i v w→R w w'→F i v w') (hd:dstsApart l=true) (hb:edgesBack (l++t0) 0=true) (hf:forcedA (l++t0) l.length=true)
  (hs:StepsT R P (l++t0).toArray l Q F a0 w0 l 0)
  (he:∀ vs w,R w0 w→KnowsAll F vs w 0 l.length→wpList P (l++t0).toArray Q t0 (putAll l 0 vs a0) w) :
  ∀ (fuel:Nat) (listed:Array Bool) (vs:Nat→Value) (w:World),listed.size=(l++t0).length→((List.range (l++t0).length).filter fun i=>!listed.getD i true).length≤fuel→R w0 w→Closed (l++t0) listed→(∀ j,j<l.length→listed.getD j true=false→vs j=oldAt l a0 j) →
   (∀ i,i<l.length→listed.getD i true=true→F i (vs i) w)→(∀ i,l.length≤i→i<(l++t0).length→listed.getD i true=false)→wpAny P .any (l++t0).toArray Q fuel listed (putAll l 0 vs a0) w:=by
 have hll:l.length≤(l++t0).length:=by simp
 have hend:∀ (fuel:Nat) (listed:Array Bool) (vs:Nat→Value) (w:World),listed.size=(l++t0).length→((List.range (l++t0).length).filter fun i=>!listed.getD i true).length≤fuel→R w0 w→(∀ i,i<l.length→listed.getD i true=true) →
   (∀ i,i<l.length→listed.getD i true=true→F i (vs i) w)→(∀ i,l.length≤i→i<(l++t0).length→listed.getD i true=false)→wpAny P .any (l++t0).toArray Q fuel listed (putAll l 0 vs a0) w:=by
  intro fuel listed vs w hsz hn hw hall hk htl
  refine run_tail (n0:=l.length) (t0:=t0) hb (by simp) hf t0 0 rfl (by simp) fuel listed _ w hsz hn (fun i hi=>hall i (by omega)) (fun i hi hil=>htl i (by omega) hil) ?_
  exact he vs w hw (knowsAll_of F vs w _ 0 fun i _ hi=>hk i (by omega) (hall i (by omega)))
 have hget:∀ i o,i<l.length→(l++t0)[i]? = some o→l[i]? = some o:=fun i o hi h=>by rwa [List.getElem?_append_left hi]at h
 intro fuel
 induction fuel with
 | zero =>
  intro listed vs w hsz hn hw hcl hold hk htl
  refine hend 0 listed vs w hsz hn hw (fun i hi=>?_) hk htl
  cases hl:listed.getD i true with
  | true=>rfl
  | false =>
   exfalso
   have:i∈(List.range (l++t0).length).filter fun i=>!listed.getD i true:=by
    rw[List.mem_filter];exact⟨List.mem_range.2 (by omega),by simp[hl]⟩
   have:=List.length_pos_of_mem this
   omega
 | succ fuel ih =>
  intro listed vs w hsz hn hw hcl hold hk htl
  by_cases hallL:∀ i,i<l.length→listed.getD i true=true
  ·exact hend (fuel+1) listed vs w hsz hn hw hallL hk htl
  ·refine⟨fun hr=>?_,fun i hi=>?_⟩
   ·exfalso
    apply hallL
    have all:∀ (n i:Nat),i<n→i<l.length→listed.getD i true=true:=by
     intro n
     induction n with
     | zero=>intro i h;omega
     | succ n ihn =>
      intro i h1 h2
      cases hl:listed.getD i true with
      | true=>rfl
      | false =>
       exfalso
       have:i∈Region.ready .any (l++t0).toArray listed:=by
        rw[mem_ready]
        have ho:(l++t0)[i]? = some l[i]:=by rw[List.getElem?_append_left h2];exact List.getElem?_eq_getElem h2
        refine⟨hl,l[i],by simpa using ho,fun e hee hbd=>?_⟩
        have hlt:=edges_back (l++t0) 0 hb i l[i] ho e hee hbd
        rw[same_getD (by omega)]
        exact ihn e.on (by omega) (by omega)
       rw[hr]at this
       cases this
    exact fun i hi=>all (i+1) i (by omega) hi
   ·rw[mem_ready]at hi
    obtain⟨h1,o,ho,hpre⟩:=hi
    have hol':(l++t0)[i]? = some o:=by simpa using ho
    have hlt':i<(l++t0).length:=(List.getElem?_eq_some_iff.1 hol').1
    have hlt:i<l.length:=by
     by_cases h:i<l.length
     ·exact h
     ·exfalso
      apply hallL
      intro j hj
      have:=forced_listed hf hcl hol' (by omega) hpre (i:=j) (by omega)
      rwa [same_getD (by omega)]at this
    have hol:=hget i o hlt hol'
    have hknow:Knows F vs w o.after.toList:=by
     refine knows_of F vs w _ fun e hee hbind=>?_
     have hee':e∈o.after:=by simpa using hee
     have hlt2:=edges_back (l++t0) 0 hb i o hol' e hee' hbind
     have hon:e.on<l.length:=by omega
     refine hk e.on hon ?_
     rw[←same_getD (by omega)]
     exact hpre e hee' hbind
    have hstep:=stepsT_at l 0 hs i o hol (by simpa using hol') vs w hw hknow (by
     intro j hj
     rw[Nat.zero_add]at hj
     unfold predB at hj
     cases hoj:l[j]? with
     | none=>rw[hoj]at hj;cases hj
     | some oj =>
      rw[hoj]at hj
      simp only[List.any_eq_true,Bool.and_eq_true,beq_iff_eq]at hj
      obtain⟨e,he,heq,hbe⟩:=hj
      have hjl:j<l.length:=(List.getElem?_eq_some_iff.1 hoj).1
      have hoj':(l++t0)[j]? = some oj:=by rw[List.getElem?_append_left hjl];exact hoj
      refine hold j hjl ?_
      rw[←same_getD (by omega)]
      cases hlj:listed.getD j false with
      | false=>rfl
      | true =>
       have:=hcl j oj hoj' hlj e (by simpa using he) hbe
       rw[heq,same_getD (by omega),h1]at this;cases this)
    rw[Nat.zero_add]at hstep
    refine hstep _ fun a' w' ⟨v,ha',hv,hw'⟩=>?_
    subst ha'
    have e:=putAll_upd v l 0 vs a0 i o hol hd
    rw[Nat.zero_add]at e
    rw[←e]
    refine ih (listed.setIfInBounds i true) (upd vs i v) w' (by simpa using hsz) ?_ (hRt _ _ _ hw hw') ?_ ?_ ?_ ?_
    ·have e2:((List.range (l++t0).length).filter fun j=>!(listed.setIfInBounds i true).getD j true)=((List.range (l++t0).length).filter fun j=>!listed.getD j true).filter fun j=>j != i:=by
      rw[List.filter_filter]
      refine List.filter_congr fun j hj=>?_
      by_cases hji:j=i
      ·subst hji
       have hin:j<listed.size:=by omega
       simp[Array.getD_eq_getD_getElem?,hin]
      ·rw[getD_set_ne _ (Ne.symm hji)];simp[hji]
     rw[e2]
     have hmem:i∈(List.range (l++t0).length).filter fun j=>!listed.getD j true:=by
      rw[List.mem_filter];exact⟨List.mem_range.2 hlt',by simp[h1]⟩
     have:=(List.length_filter_lt_length_iff_exists (p:=fun j=>j != i) (l:=(List.range (l++t0).length).filter fun j=>!listed.getD j true)).2 ⟨i,hmem,by simp⟩
     omega
    ·intro j p hp hjl x hx hbx
     by_cases hji:j=i
     ·subst hji
      have:=hol'.symm.trans hp;cases this
      exact getD_set_true (hpre x hx hbx)
     ·rw[getD_set_ne _ (Ne.symm hji)]at hjl
      exact getD_set_true (hcl j p hp hjl x hx hbx)
    ·intro j hj hlj
     by_cases hji:j=i
     ·subst hji
      have hin:j<listed.size:=by omega
      simp[Array.getD_eq_getD_getElem?,hin]at hlj
     ·rw[upd_other _ _ hji]
      rw[getD_set_ne _ (Ne.symm hji)]at hlj
      exact hold j hj hlj
    ·intro j hj hlj
     by_cases hji:j=i
     ·subst hji;rw[upd_same];exact hv
     ·rw[upd_other _ _ hji]
      rw[getD_set_ne _ (Ne.symm hji)]at hlj
      exact hF _ _ _ _ (hk j hj hlj) hw'
    ·intro j hj hjl
     rw[getD_set_ne _ (by omega)]
     exact htl j hj hjl
end
theorem wp_region_tail {P : Program} {Q : Exit→Act→World→Prop} {all:List Oper} {a0:Act} {w0:World} {id:Nat} (n:Nat) (R:World→World→Prop) (hRt:∀ a b c,R a b→R b c→R a c) (hRd:R w0 w0.drew) (hm:P.follows .mixedOrders=true)
  (hd:dstsApart (all.take n)=true) (hb:edgesBack all 0=true) (hf:forcedA all n=true) (hn:n≤all.length) (Fs:List (Value→World→Prop)) (hF:∀ i v w w',nthF Fs i v w→R w w'→nthF Fs i v w')
  (hs:StepsT R P all.toArray (all.take n) Q (nthF Fs) a0 w0 (all.take n) 0)
  (he:∀ vs w,R w0 w→KnowsAll (nthF Fs) vs w 0 n→wpList P all.toArray Q (all.drop n) (putAll (all.take n) 0 vs a0) w):(Code.region id all.toArray true).wp P Q a0 w0:=by
 refine wp_region_any hm ?_
 have hln:(all.take n).length=n:=by rw[List.length_take];omega
 have hcat:all.take n++all.drop n=all:=List.take_append_drop n all
 have e:=putAll_old (oldAt (all.take n) a0) a0 (all.take n) 0 (fun i o d hi hdst=>by simp only[oldAt,Nat.zero_add,hi,Option.bind_some,hdst])
 have h:=any_factsT (l:=all.take n) (t0:=all.drop n) (P:=P) (Q:=Q) (F:=nthF Fs) (a0:=a0) (w0:=w0) hRt hF hd (by rw[hcat];exact hb) (by rw[hcat,hln];exact hf) (by rw[hcat];exact hs) (by rw[hcat,hln];exact he)
  all.length (Array.replicate all.length false) (oldAt (all.take n) a0) { w0 with drawn:=w0.drawn+1 } (by rw[hcat];simp) (by rw[hcat];exact Nat.le_trans (List.length_filter_le _ _) (by simp)) hRd
  (fun i o ho hl=>by
   have hi:i<all.length:=by rw[←hcat];exact (List.getElem?_eq_some_iff.1 ho).1
   simp[Array.getD_eq_getD_getElem?,hi]at hl)
  (fun _ _ _=>rfl)
  (fun i hi hl=>by
   have:i<all.length:=by omega
   simp[Array.getD_eq_getD_getElem?,this]at hl)
  (fun i _ hi=>by
   rw[hcat]at hi
   simp[Array.getD_eq_getD_getElem?,hi])
 rw[e,hcat]at h
 simpa using h
theorem wp_region_since_tail {P : Program} {Q : Exit→Act→World→Prop} {all:List Oper} {a0:Act} {w0:World} {id:Nat} (n:Nat) (hm:P.follows .mixedOrders=true)
  (hd:dstsApart (all.take n)=true) (hb:edgesBack all 0=true) (hf:forcedA all n=true) (hn:n≤all.length) (Fs:List (Value→World→Prop)) (hF:AllStable Fs)
  (hs:StepsT Since P all.toArray (all.take n) Q (nthF Fs) a0 w0 (all.take n) 0)
  (he:∀ vs w,Since w0 w→KnowsAll (nthF Fs) vs w 0 n→wpList P all.toArray Q (all.drop n) (putAll (all.take n) 0 vs a0) w):(Code.region id all.toArray true).wp P Q a0 w0:=
 wp_region_tail n Since (fun _ _ _=>Since.trans) (Since.refl _).drew hm hd hb hf hn Fs (nthF_stable Fs hF) hs he
theorem BuF.keep {B b:Nat} {p : Value} {l : List Value} {w w':World} (h:BuF B b p l w) (s:Since w w'):BuF B b p l w':=by
 obtain⟨hB,v,hb,hown,hne⟩:=h
 refine⟨hB,v,(Below.block s b (Array.getElem?_eq_some_iff.1 hb).1).trans hb,⟨hown.1,?_⟩,hne⟩
 rcases hown.2 with h|⟨g,cap,cur,fz,h1,h2,h3,h4⟩
 ·exact .inl h
 ·exact .inr ⟨g,cap,cur,fz,h1,h2,(Below.block s g (Array.getElem?_eq_some_iff.1 h3).1).trans h3,h4⟩
theorem Bu.keep {B b:Nat} {l : Bs} {w w':World} (h:Bu B b l w) (s:Since w w'):Bu B b l w':=h.elim (fun h=>.inl (BuF.keep h s)) (fun h=>.inr (BuF.keep h s))
theorem Bu.lt {B b:Nat} {l : Bs} {w : World} (h:Bu B b l w):b<w.heap.size:=h.elim (fun h=>h.lt) (fun h=>h.lt)
theorem byte_app (a b:Bs):Lib.byteCells (a++b)=Lib.byteCells a++Lib.byteCells b:=by unfold Lib.byteCells;exact List.map_append
theorem bu_app {B b:Nat} {l : Bs} {s : ByteArray} {w : World} (h:BuF B b (.pointer (some ⟨b,0,none⟩)) (Lib.byteCells l++Lib.strCells s) w) {m : Bs} (hm:l++s.data.toList=m):Bu B b m w:=by
 subst hm
 exact .inr (by rw[byte_app];exact h)
theorem bu_app1 {B b:Nat} {l : Bs} {c : UInt8} {n : Int} (hn:n=c.toNat) {w : World} (h:BuF B b (.pointer (some ⟨b,0,none⟩)) (Lib.byteCells l++[.int .u8 n]) w) {m : Bs} (hm:l++[c]=m):Bu B b m w:=by
 subst hm;subst hn
 exact .inr (by rw[byte_app];exact h)
theorem Kept.since {B b:Nat} {w w':World} (s:Since w w') (hB:B≤w.heap.size):Kept B b w w':=
 ⟨Below.mono s hB,fun k o hk _ _=>(Below.block s k (Array.getElem?_eq_some_iff.1 hk).1).trans hk⟩
theorem Kept.size {B b:Nat} {w w':World} (h:Kept B b w w'):w.heap.size≤w'.heap.size:=h.below.size
theorem bytes_len (s:ByteArray):s.data.toList.length=s.size:=Array.length_toList
theorem flat_take {α:Type} (f:α→Bs) (l:List α) (k:Nat):((l.take k).flatMap f).length≤(l.flatMap f).length:=by
 have:l.flatMap f=(l.take k).flatMap f++(l.drop k).flatMap f:=by rw[←List.flatMap_append,List.take_append_drop]
 rw[this,List.length_append];omega
theorem flat_next {α:Type} (f:α→Bs) {l : List α} {k : Nat} {x : α} (h:l[k]? = some x):(l.take (k+1)).flatMap f=(l.take k).flatMap f++f x:=by
 rw[List.take_add_one,h,List.flatMap_append];simp
theorem Kept.heap {B b k:Nat} {w w':World} {cs:Array Value} {T : TypeId} {fz:Nat × Nat} (h:Kept B b w w') (hk:w.heap[k]? = some (.cells cs T fz)) (hb:k≠b) (hT:T≠5):w'.heap[k]? = some (.cells cs T fz):=
 h.others k _ hk (fun e=>hb (by cases e;rfl)) (fun c fz e=>by cases e;exact hT rfl)
theorem ta_hit {P : Program} {t : TypeId} {u : TypeDesc} (h:P.underlying t=some u) (hn:∀ m,u≠.interface m) (v:Value) (xT:TypeId) (w:World):(Instr.typeAssert (.iface t v) xT t true).run P w=.ok (.tuple #[v,.bool true]) w:=by
 cases u<;>first | exact absurd rfl (hn _) | simp[Instr.typeAssert,run_underlying h]
theorem ta_miss {P : Program} {s t:TypeId} {u : TypeDesc} {z : Value} (h:P.underlying t=some u) (hn:∀ m,u≠.interface m) (hz:∀ w,(zeroValue t).run P w=.ok z w) (hne:s≠t) (v:Value) (xT:TypeId) (w:World):(Instr.typeAssert (.iface s v) xT t true).run P w=.ok (.tuple #[z,.bool false]) w:=by
 cases u<;>first | exact absurd rfl (hn _) | simp[Instr.typeAssert,run_underlying h,hne,hz]
inductive It where
 | ns (v:Value) (l:List Int)
 | n (x:Int)
 | w (x:Int)
 | s (x:ByteArray)
def itc:It→List Value
 | .ns v _=>[.iface 32 v]
 | .n x=>[.iface 3 (.int .i64 x)]
 | .w x=>[.iface 21 (.int .i32 x)]
 | .s x=>[.iface 9 (.string x)]
def In64 (x:Int):Prop:=-9223372036854775808≤x∧x≤9223372036854775807
def ItIn (w:World):It→Prop
 | .ns v l=>Ints w v l∧∀ x∈l,In64 x
 | .n x=>In64 x
 | .w x=>In32W x
 | .s _=>True
def itS:It→Bs
 | .ns _ l=>allS l
 | .n x=>dS x
 | .w x=>dS x
 | .s x=>32::x.data.toList
abbrev ItsIn (w:World) (v:Value) (l:List It):Prop:=RowIn itc 1 ItIn w v l
theorem nums_lenI {k : IntKind} {w : World} {v : Value} {l : List Int} (h:Nums k w v l):∃ a cap,v=.slice a l.length cap:=by
 rcases h with ⟨_,h1,rfl⟩|⟨b,off,cap,h1,_⟩
 ·exact⟨_,_,h1⟩
 ·exact⟨_,_,h1⟩
theorem nums_at {k : IntKind} {w : World} {a : Option Addr} {n cap:Nat} {l : List Int} (h:Nums k w (.slice a n cap) l) {j : Nat} (hj:j<l.length):∃ b off x,a=some ⟨b,off,none⟩∧b<w.heap.size∧l[j]? = some x∧w.cell? ⟨b,off+j,none⟩=some (.int k x):=by
 rcases h with ⟨_,_,h2⟩|⟨b,off,cap',h1,_,_,hb,hc⟩
 ·subst h2;simp at hj
 ·cases h1;exact⟨b,off,_,rfl,hb,List.getElem?_eq_getElem hj,hc j _ (List.getElem?_eq_getElem hj)⟩
theorem RowIn.get {α:Type} {f : α→List Value} {sz:Nat} {p : World→α→Prop} {w : World} {v : Value} {l : List α} (h:RowIn f sz p w v l) {k : Nat} {x : α} (hx:l[k]? = some x):p w x:=by
 rcases h with ⟨_,_,rfl⟩|⟨b,off,cap',_,_,_,_,h5⟩
 ·simp at hx
 ·exact (h5 k x hx).2
structure LaidT (w:World):Prop where
 s:LaidS w
 tab : Lib.TabIs Tryz.prog w "strings.asciiSpace" .u8 Lib.asciiSpaceTab
 mx:∃ m,w.cell? ⟨3,0,none⟩=some (.int .i64 m)
theorem LaidT.keep {w w':World} (h:LaidT w) (hb:Since w w'):LaidT w':=by
 obtain⟨h1,h2,m,h3⟩:=h
 refine⟨h1.keep hb,TabIs_below (g:=0) (by kernel_rfl) h2 hb,m,?_⟩
 rw[hb.cell]
 ·exact h3
 ·exact World.block_lt_of_cell? _ _ h3
theorem dS_len (x:Int) (h:In64 x):(dS x).length≤22:=by
 have:=Lib.itoa_length_le x h.1 h.2
 unfold dS;simp only[List.length_cons];omega
theorem itoa_fits (x:Int) (h:In64 x):¬ 9223372036854775807<1+(Lib.itoa x).length:=by
 have:=Lib.itoa_length_le x h.1 h.2
 omega
def HeapIs (w:World) (q:Nat) (cs:Array Value) (T:TypeId):Prop:=w.heap[q]? = some (.cells cs T (0,0))
theorem HeapIs.cell {w : World} {q : Nat} {cs:Array Value} {T : TypeId} (h:HeapIs w q cs T) (i:Nat):w.cell? ⟨q,i,none⟩=cs[i]?:=by
 simp[World.cell?,show w.heap[q]? = _ from h]
theorem HeapIs.lt {w : World} {q : Nat} {cs:Array Value} {T : TypeId} (h:HeapIs w q cs T):q<w.heap.size:=(Array.getElem?_eq_some_iff.1 h).1
theorem HeapIs.keep {w w':World} {q : Nat} {cs:Array Value} {T : TypeId} (h:HeapIs w q cs T) (s:Since w w'):HeapIs w' q cs T:=(Below.block s q h.lt).trans h
theorem HeapIs.new (w:World) (cs:Array Value) (T:TypeId):HeapIs (w.alloc (.cells cs T)) w.heap.size cs T:=heap_last _ _
theorem HeapIs.set {w : World} {q : Nat} {cs:Array Value} {T : TypeId} (h:HeapIs w q cs T) (i:Nat) (x:Value):HeapIs (w.setCell ⟨q,i,none⟩ x) q (cs.setIfInBounds i x) T:=by
 unfold HeapIs at h ⊢
 simp[World.setCell,Array.getElem?_modify,h]
theorem HeapIs.frozen {w : World} {q : Nat} {cs:Array Value} {T : TypeId} (h:HeapIs w q cs T) (i:Nat):w.frozen? ⟨q,i,none⟩=false:=by
 simp[World.frozen?,show w.heap[q]? = _ from h]
structure FIns where
 op:Int
 dst:Int
 two:Int
 args:List Int
 av:Value
 imm:Int
structure FPhi where
 dst:Int
 ins:List (Int × Int)
 inv:Value
structure FTerm where
 kind:Int
 args:List Int
 argsv:Value
 «to» : List Int
 tov:Value
 imm:Int
structure FBlk where
 phis:List FPhi
 phv:Value
 ins:List FIns
 inv:Value
 term:FTerm
structure FnV where
 params:Int
 blocks:List FBlk
 bv:Value
def ficells (x:FIns):List Value:=[.int .i64 x.op,.int .i64 x.dst,.int .i64 x.two,x.av,.int .i32 x.imm]
theorem ficells_len (x:FIns):(ficells x).length=5:=rfl
def prcells (x:Int × Int):List Value:=[.int .i64 x.1,.int .i64 x.2]
theorem prcells_len (x:Int × Int):(prcells x).length=2:=rfl
def fpcells (x:FPhi):List Value:=[.int .i64 x.dst,x.inv]
theorem fpcells_len (x:FPhi):(fpcells x).length=2:=rfl
def ftcells (x:FTerm):List Value:=[.int .i64 x.kind,x.argsv,x.tov,.int .i32 x.imm]
def fbcells (x:FBlk):List Value:=[x.phv,x.inv,.int .i64 x.term.kind,x.term.argsv,x.term.tov,.int .i32 x.term.imm]
theorem fbcells_len (x:FBlk):(fbcells x).length=6:=rfl
def fiv (x:FIns):Value:=.agg #[.int .i64 x.op,.int .i64 x.dst,.int .i64 x.two,x.av,.int .i32 x.imm]
def fv (f:FnV):Value:=.agg #[.int .i64 f.params,f.bv]
def FInsIn (w:World) (x:FIns):Prop:=Ints w x.av x.args
abbrev PairsIn (w:World) (v:Value) (l:List (Int × Int)):Prop:=RowIn prcells 2 (fun _ _=>True) w v l
def FPhiIn (w:World) (x:FPhi):Prop:=PairsIn w x.inv x.ins
def FTermIn (w:World) (x:FTerm):Prop:=Ints w x.argsv x.args∧Ints w x.tov x.to
def FBlkIn (w:World) (b:FBlk):Prop:=RowIn fpcells 2 FPhiIn w b.phv b.phis∧RowIn ficells 5 FInsIn w b.inv b.ins∧FTermIn w b.term
def FnIn (w:World) (f:FnV):Prop:=RowIn fbcells 6 FBlkIn w f.bv f.blocks
theorem PairsIn.keep {w w':World} {v : Value} {l : List (Int × Int)} (h:PairsIn w v l) (s:Since w w'):PairsIn w' v l:=RowIn.keep (fun _ _ _ _ _=>trivial) h s
theorem FInsIn.keep (w w':World) (x:FIns) (h:FInsIn w x) (s:Since w w'):FInsIn w' x:=Nums.keep h s
theorem FPhiIn.keep (w w':World) (x:FPhi) (h:FPhiIn w x) (s:Since w w'):FPhiIn w' x:=PairsIn.keep h s
theorem FTermIn.keep {w w':World} {x : FTerm} (h:FTermIn w x) (s:Since w w'):FTermIn w' x:=⟨h.1.keep s,h.2.keep s⟩
theorem FBlkIn.keep (w w':World) (b:FBlk) (h:FBlkIn w b) (s:Since w w'):FBlkIn w' b:=⟨RowIn.keep FPhiIn.keep h.1 s,RowIn.keep FInsIn.keep h.2.1 s,h.2.2.keep s⟩
theorem FnIn.keep {w w':World} {f : FnV} (h:FnIn w f) (s:Since w w'):FnIn w' f:=RowIn.keep FBlkIn.keep h s
theorem HeapIs.kept {B b k:Nat} {w w':World} {cs:Array Value} {T : TypeId} (h:HeapIs w k cs T) (hk:Kept B b w w') (hb:k≠b) (hT:T≠5):HeapIs w' k cs T:=hk.heap h hb hT
theorem its_new {B b:Nat} {w : World} (its:List It) (cs:Array Value) (n:Nat) (hcs:cs=(its.flatMap itc).toArray) (hn:n=its.length) (hm:its.length≤1000) (hb:b<w.heap.size) (hw:∀ x∈its,∀ w',Kept B b w w'→ItIn w' x) (hB:B≤w.heap.size) :
  ∀ w',Kept B b (w.alloc (.cells cs 20)) w'→ItsIn w' (.slice (some ⟨w.heap.size,0,none⟩) n n) its:=by
 subst hn;subst hcs
 intro w' hk
 have hh:=HeapIs.kept (HeapIs.new w _ _) hk (by omega) (by decide)
 refine .inr ⟨w.heap.size,0,its.length,rfl,Nat.le_refl _,by unfold maxLen;omega,hh.lt,fun j x hx=>⟨fun t ht=>?_,hw x (List.mem_of_getElem? hx) w' ((Kept.since ((Since.refl _).alloc _) hB).trans hk)⟩⟩
 obtain rfl:t=0:=by omega
 rw[show 0+j*1+0=j*1+0 from by omega,hh.cell,List.getElem?_toArray,flat_at itc 1 (fun x=>by cases x<;>rfl) its j 0 x hx (by decide)]
def FIns.d (x:FIns):DIns:=⟨x.op,x.dst,x.two,x.args,x.imm⟩
def FPhi.d (x:FPhi):DPhi:=⟨x.dst,x.ins⟩
def FTerm.d (x:FTerm):DTerm:=⟨x.kind,x.args,x.to,x.imm⟩
def FBlk.d (x:FBlk):DBlk:=⟨x.phis.map FPhi.d,x.ins.map FIns.d,x.term.d⟩
def FnV.d (f:FnV):DFn:=⟨f.params,f.blocks.map FBlk.d⟩
structure InsR (x:FIns):Prop where
 op:In64 x.op
 dst:In64 x.dst
 two:In64 x.two
 args:∀ y∈x.args,In64 y
 imm:In32W x.imm
def cNav:List Nat→Code→Code
 | [],c=>c
 | 0::r,.seq a _=>cNav r a
 | _::r,.seq _ b=>cNav r b
 | _::r,.block _ c=>cNav r c
 | _::r,.loop c=>cNav r c
 | 0::r,.cond _ a _=>cNav r a
 | _::r,.cond _ _ b=>cNav r b
 | _::_,c=>c
def Sl:List (Nat × Value)→Act→Prop
 | [],_=>True
 | p::r,a=>a.tmps[p.1]? = some p.2∧Sl r a
theorem sl_nil (a:Act):Sl [] a:=trivial
theorem sl_cons {i : Nat} {v : Value} {l : List (Nat × Value)} {a : Act} (h:a.tmps[i]? = some v) (t:Sl l a):Sl ((i,v)::l) a:=⟨h,t⟩
theorem wp_loop_fr {P : Program} {Q : Exit→Act→World→Prop} {a : Act} {w : World} {c : Code} (J:Nat→Act→World→Prop) (n₀:Nat) (h₀:J n₀ a w)
  (round:∀ (t:Nat) (a:Act) (w:World) (K:Act→World→Prop),J t a w→(∀ (t':Nat) (a':Act) (w':World),t' < t→J t' a' w'→K a' w')→c.wp P (Exit.then K Q) a w):(Code.loop c).wp P Q a w:=
 wp_loop_ghost J n₀ h₀ fun n a w h=>round n a w _ h fun t' a' w' h1 h2=>⟨t',h1,h2⟩
end Go.Proofs.YtmhojfpidedjeaaGreatDoor
