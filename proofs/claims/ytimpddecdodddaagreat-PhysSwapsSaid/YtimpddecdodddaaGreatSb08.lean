import Derived.Test.YtimpddecdodddaaGreatSb07
import Derived.Deep.Slices
import Derived.WideShapes
import Derived.ChangeAlike
import Derived.RangeFuncNested
import Derived.RangeFuncBound
import Derived.RangeFuncCalls
import Derived.RangeFuncLeaves
import Derived.Shelf.Abstract
import Derived.Shelf.RegionOpen
import Derived.OwnWalkIn
import Derived.TacticsInMore
import Derived.LoopNIn
import Derived.LoopIn
import Derived.OwnWalk
namespace Go.Proofs.YtimpddecdodddaaGreat
open Go.RowKit Go.Lib
theorem zB {P:Prop} (h:P:=by
 obtain⟨rfl,rfl,rfl⟩:=hh;go_wp2_with fail
 refine (W1.out _).mono ?_;rw[hl.out];rintro e w1 ⟨rfl,rfl⟩;go_wp2_with fail
 refine (W2.out _).mono ?_;rw[ho.out];rintro e w1 ⟨rfl,rfl⟩;go_wp2_with fail
 refine (W3.out _).mono ?_;rw[hw.out];rintro e w1 ⟨rfl,rfl⟩;go_wp2
 go_ret3
 exact⟨rfl,HS.out⟩):P:=h
theorem ji {P:Prop} (h:P:=by
 rintro e w1 ⟨rfl,rfl⟩;go_wp2
 go_ret3
 exact⟨rfl,HS.out⟩):P:=h
theorem XQ {α:Type} (f:α→List Value) (sz:Nat) (hf:∀ x,(f x).length=sz):∀ (l:List α) (j t:Nat) (x:α),l[j]? = some x→t<sz→(l.flatMap f)[j*sz+t]? = (f x)[t]?
 | [],_,_,_,h,_=>by cases h
 | y::r,0,t,x,h,ht=>by
  obtain rfl:y=x:=by simpa using h
  rw[List.flatMap_cons,List.getElem?_append_left (by rw[hf];omega)]
  simp
 | y::r,j+1,t,x,h,ht=>by
  rw[List.flatMap_cons,List.getElem?_append_right (by rw[hf,Nat.succ_mul];omega),hf,show (j+1)*sz+t-sz=j*sz+t from by rw[Nat.succ_mul];omega]
  exact XQ f sz hf r j t x kL ht
theorem XI {α:Type} (f:α→List Value) (sz:Nat) (hf:∀ x,(f x).length=sz):∀ (l:List α),(l.flatMap f).length=l.length*sz
 | []=>by simp
 | y::r=>by rw[List.flatMap_cons,List.length_append,hf,XI f sz hf r,List.length_cons,Nat.succ_mul];omega
theorem Zs {w w':World} {base:Nat} {e : TypeId} {size n:Nat} {v : Value} {xs:List Value} (h:w.ownsRow base e size v n xs) (s:Since w w'):w'.ownsRow base e size v n xs:=by
 obtain⟨h0,h|⟨g,cap,cur,h1,h2,h3,h4⟩⟩:=h
 ·exact⟨h0,.inl h⟩
 ·exact⟨h0,.inr ⟨g,cap,cur,h1,h2,(Below.block s g (Array.getElem?_eq_some_iff.1 h3).1).trans h3,h4⟩⟩
def OwnRow {α:Type} (f:α→List Value) (sz:Nat) (e:TypeId) (base:Nat) (w:World) (v:Value) (l:List α):Prop:=w.ownsRow base e sz v l.length (l.flatMap f)
theorem OwnRow.keep {α:Type} {f : α→List Value} {sz:Nat} {e : TypeId} {base:Nat} {w w':World} {v : Value} {l : List α} (h:OwnRow f sz e base w v l) (s:Since w w'):OwnRow f sz e base w' v l:=Zs h s
theorem OwnRow.nil {α:Type} (f:α→List Value) (sz:Nat) (e:TypeId) (base:Nat) (w:World):OwnRow f sz e base w (.slice none 0 0) []:=⟨by simp,.inl ⟨rfl,rfl⟩⟩
theorem OwnRow.shape {α:Type} {f : α→List Value} {sz:Nat} {e : TypeId} {base:Nat} {w : World} {v : Value} {l : List α} (h:OwnRow f sz e base w v l):∃ a cap,v=.slice a l.length cap:=by
 obtain⟨_,⟨hv,hn⟩|⟨g,cap,cur,hv,_⟩⟩:=h
 ·exact⟨none,0,by rw[hv,hn]⟩
 ·exact⟨_,cap,hv⟩
theorem OwnRow.cells {α:Type} {f : α→List Value} {sz:Nat} (hf:∀ x,(f x).length=sz) {e : TypeId} {base:Nat} {w : World} {v : Value} {l : List α} (h:OwnRow f sz e base w v l) :
  (v=.slice none 0 0∧l=[])∨∃ g cap,v=.slice (some ⟨g,0,none⟩) l.length cap∧l.length≤cap∧cap≤maxLen∧base≤g∧g<w.heap.size∧∀ (j t:Nat) (x:α),l[j]? = some x→t<sz→w.cell? ⟨g,j*sz+t,none⟩=(f x)[t]?:=by
 obtain⟨_,⟨hv,hn⟩|⟨g,cap,cur,hv,hb,hg,hc,hm,hs,ha⟩⟩:=h
 ·exact .inl ⟨hv,List.length_eq_zero_iff.1 hn⟩
 ·refine .inr ⟨g,cap,hv,hc,hm,hb,(Array.getElem?_eq_some_iff.1 hg).1,fun j t x hj ht=>?_⟩;have hd:j<l.length:=(List.getElem?_eq_some_iff.1 hj).1;have he:j*sz+t<l.length*sz:=by
   have:(j+1)*sz≤l.length*sz:=Nat.mul_le_mul_right _ hd;rw[Nat.succ_mul]at this;omega
  have e1:=congrArg (fun x=>x[j*sz+t]?) ha;simp only[List.getElem?_take_of_lt he,XQ f sz hf l j t x hj ht]at e1;simp only[World.cell?,hg];simpa using e1
def predB (l:List Oper) (j i:Nat):Bool:=match l[i]? with
 | some o=>o.after.toList.any fun e=>e.on==j&&Region.binds .any e
 | none=>false
def XV (l:List Oper):Nat→Nat→Nat→Bool
 | 0,_,_=>false
 | f+1,k,i=>match l[i]? with
  | some o=>o.after.toList.any fun e=>Region.binds .any e&&(e.on==k||XV l f k e.on)
  | none=>false
def Vd (l:List Oper) (listed:Array Bool):Prop:=∀ (i:Nat) (o:Oper),l[i]? = some o→listed.getD i false=true→∀ e∈o.after,Region.binds .any e=true→listed.getD e.on false=true
theorem YX {l : List Oper} {listed:Array Bool} (hc:Vd l listed):∀ (f k i:Nat),XV l f k i=true→∀ o,l[i]? = some o→(∀ e∈o.after,Region.binds .any e=true→listed.getD e.on false=true)→listed.getD k false=true
 | 0,_,_,h,_,_,_=>by cases h
 | f+1,k,i,h,o,ho,hp=>by
  unfold XV at h
  rw[ho]at h
  simp only[List.any_eq_true,Bool.and_eq_true,Bool.or_eq_true,beq_iff_eq]at h
  obtain⟨e,he,hb,h|h⟩:=h
  ·subst h;exact hp e kD hb
  ·have hl:=hp e kD hb
   cases ha:l[e.on]? with
   | none =>
    cases f with
    | zero=>cases h
    | succ f=>unfold XV at h;rw[ha]at h;cases h
   | some o2=>exact YX hc f k e.on h o2 ha (hc e.on o2 ha hl)
section
variable {P : Program} {Q : Exit→Act→World→Prop} {l : List Oper} {F : Nat→Value→World→Prop} {a0:Act} {w0:World} {fixed cons fin:List Bool}
end
def Zak (f:Value→World→Prop):Prop:=∀ v w w',f v w→f v w'
theorem Is.fixed (x:Value):Zak (Is x):=fun _ _ _ h=>h
open Go.RowKit Go.ChangeShapes Go.WideShapes
set_option linter.unusedVariables false
set_option maxHeartbeats 4000000
set_option maxRecDepth 100000
section
variable {H : Type} {enc:TypeId × Value→H} {P : Program} {w : World} {base:Nat} {held:Bool}
theorem Zby {a : Addr} {v : Value} (h:w.cell? (a.add 0)=some v):a=⟨a.block,a.off,none⟩:=by
 obtain⟨b,o,s⟩:=a;have h':w.cell? ⟨b,o,s⟩=some v:=by simpa [Addr.add]using h
 have:=World.cell?_spot h';simp at this;simp[this]
theorem ZeK {b o i:Nat}:(⟨b,o,none⟩:Addr).add i=⟨b,o+i,none⟩:=by
 unfold Addr.add;split
 ·rename_i h;subst h;rfl
 ·rfl
theorem Zd6 {a : Addr} {v : Value} (h:w.cell? a=some v):a.block<w.heap.size:=by
 by_cases ha:a.block<w.heap.size
 ·exact ha
 ·exfalso
  unfold World.cell? at h;rw[Array.getElem?_eq_none kT]at h
  cases a.spot<;>simp at h
theorem ZbQ {t e:TypeId} {k : IntKind} {fuel:Nat} {v : Value} {x : DataW H × List MemPlace} (ht:P.underlying t=some (.slice e)) (he:P.underlying e=some (.int k)) (hc:P.cellsOf e=1)
  (h:DataW.trod enc P w base (fun _=>true) held fuel t [v]=some x):∃ l:List Int,Zt k w v l∧∀ n∈l,(Lit.int k n).wf=true:=by
 rcases Go.Deep.open_slice1 ht hc h with ⟨hv,_⟩|⟨a,len,cap,m,n,V,D,Pl,hv,_,hl,hm,hd,_,hx⟩
 ·exact⟨[],.inl ⟨none,by simpa using hv,rfl⟩,fun n hn=>by cases hn⟩
 ·have hv:v=.slice (some a) len cap:=by simpa using hv
  obtain rfl:m=cap:=by simpa using hd
  have ha:∀ i,i<m→∃ z:Int,V i=.int k z∧(Lit.int k z).wf=true:=fun i hi=>by
   obtain⟨z,h1,_,h2⟩:=DataW.trod_int he (hx i hi).2;exact⟨z,by simpa using h1,h2⟩
  obtain⟨Z,hZ⟩:=Go.Deep.choose_lt ha;by_cases h0:m=0
  ·have hf:len=0:=kT
   subst hf;subst h0;exact⟨[],.inl ⟨some a,hv,rfl⟩,fun n hn=>by cases hn⟩
  ·have h1:=(hx 0 kT).1;have hs:=Zby h1;have hb:=Zd6 h1;have hh:a.block<w.heap.size:=by
    unfold Addr.add at hb;simpa using hb
   refine⟨(List.range len).map Z,.inr ⟨a.block,a.off,m,?_,by simpa using hl,hm,hh,?_⟩,?_⟩
   ·rw[hv,←hs];simp
   ·intro j z hj;have hg:j<len:=by
     have:=(List.getElem?_eq_some_iff.1 hj).1;simpa using this
    have hz:Z j=z:=by simpa [hg]using hj
    have:=(hx j kT).1;rw[hs,ZeK]at this;rw[this,(hZ j kT).1,hz]
   ·intro z hz;obtain⟨i,hi,rfl⟩:=List.mem_map.1 hz;have:=List.mem_range.1 hi;exact (hZ i kT).2
end
theorem Tryz.cellsInt:Tryz.prog.cellsOf 3=1:=by kernel_rfl
section
variable {H : Type} {enc:TypeId × Value→H} {w : World} {base:Nat} {held:Bool}
theorem Zb3 {P : Program} {t : TypeId} {k : IntKind} {fuel:Nat} {v : Value} {x : Option (DataW H × List MemPlace)} (ht:P.underlying t=some (.int k)) (hx:DataW.trod enc P w base (fun _=>true) held fuel t [v]=x) (hs:x.isSome=true) :
  ∃ n,v=.int k n∧(Lit.int k n).wf=true:=by
 obtain⟨y,rfl⟩:=Option.isSome_iff_exists.1 hs;obtain⟨n,h1,_,h2⟩:=DataW.trod_int ht hx;exact⟨n,by simpa using h1,h2⟩
end
def RowIn {α:Type} (f:α→List Value) (sz:Nat) (p:World→α→Prop) (w:World) (v:Value) (l:List α):Prop:=
 (∃ a,v=.slice a 0 0∧l=[])∨∃ b off cap,v=.slice (some ⟨b,off,none⟩) l.length cap∧l.length≤cap∧cap≤maxLen∧b<w.heap.size∧∀ (j:Nat) (x:α),l[j]? = some x→(∀ t,t<sz→w.cell? ⟨b,off+j*sz+t,none⟩=(f x)[t]?)∧p w x
theorem RowIn.keep {α:Type} {f : α→List Value} {sz:Nat} {p : World→α→Prop} (hp:∀ w w' x,p w x→Since w w'→p w' x) {w w':World} {v : Value} {l : List α} (h:RowIn f sz p w v l) (s:Since w w'):RowIn f sz p w' v l:=by
 rcases h with h|⟨b,off,cap,h1,h2,h3,h4,h5⟩
 ·exact .inl h
 ·exact .inr ⟨b,off,cap,h1,h2,h3,Nat.lt_of_lt_of_le h4 s.size,fun j x hj=>⟨fun t ht=>by rw[s.cell (p:=⟨b,off+j*sz+t,none⟩) h4];exact (h5 j x hj).1 t ht,hp _ _ _ (h5 j x hj).2 s⟩⟩
theorem RowIn.shape {α:Type} {f : α→List Value} {sz:Nat} {p : World→α→Prop} {w : World} {v : Value} {l : List α} (h:RowIn f sz p w v l):∃ a cap,v=.slice a l.length cap∧l.length≤maxLen:=by
 rcases h with ⟨a,h1,h2⟩|⟨b,off,cap,h1,h2,h3,_⟩
 ·subst h2;exact⟨a,0,h1,Nat.zero_le _⟩
 ·exact⟨_,cap,h1,kT⟩
theorem RowIn.at {α:Type} {f : α→List Value} {sz:Nat} {p : World→α→Prop} {w : World} {a : Option Addr} {n cap:Nat} {l : List α} (h:RowIn f sz p w (.slice a n cap) l) {k : Nat} (hk:k<l.length) :
  ∃ b off x,a=some ⟨b,off,none⟩∧b<w.heap.size∧l[k]? = some x∧(∀ t,t<sz→w.cell? ⟨b,off+k*sz+t,none⟩=(f x)[t]?)∧p w x:=by
 rcases h with ⟨_,_,h2⟩|⟨b,off,cap',h1,_,_,h4,h5⟩
 ·subst h2;simp at hk
 ·cases h1
  have hx:l[k]? = some l[k]:=List.getElem?_eq_getElem hk;exact⟨b,off,_,rfl,h4,hx,h5 k _ hx⟩
section
variable {H : Type} {enc:TypeId × Value→H} {P : Program} {w : World} {base:Nat} {held:Bool}
end
theorem Since.drewN {a b:World} (h:Since a b) (n:Nat):Since a (b.drewN n):=⟨h.os,h.tape,h.output,h.size,h.block⟩
def plcells (x:PlV):List Value:=[.int .i64 x.m.op,.int .i64 x.m.d,.int .i64 x.m.e,.int .i64 x.m.a,.int .i64 x.m.b,.int .i64 x.m.c,.int .i32 x.m.imm,x.av,.int .i64 x.src]
theorem ZE (x:PlV):(plcells x).length=9:=rfl
def blcells (b:ZD):List Value:=[b.insv,.int .i64 b.fin.op,.int .i64 b.fin.a,.int .i64 b.fin.b,b.fin.tov,.int .i32 b.fin.imm]
theorem YE (b:ZD):(blcells b).length=6:=rfl
def J3 (w:World) (x:PlV):Prop:=Zi w x.av x.m.args∧Yw x.m∧∀ q,x.av.ownBlock=some q→q<w.heap.size
theorem J3.keep (w w':World) (x:PlV) (h:J3 w x) (s:Since w w'):J3 w' x:=⟨h.1.keep s,h.2.1,fun q hq=>Nat.lt_of_lt_of_le (h.2.2 q hq) s.size⟩
abbrev Pls:=RowIn plcells 9 J3
def JF (w:World) (b:ZD):Prop:=Pls w b.insv b.ins∧Zi w b.fin.tov b.fin.to∧b.ins.length≤100000
theorem JF.keep (w w':World) (x:ZD) (h:JF w x) (s:Since w w'):JF w' x:=⟨RowIn.keep J3.keep h.1 s,h.2.1.keep s,h.2.2⟩
abbrev Zdg:=RowIn blcells 6 JF
def Xu (w:World) (p:Z2):Prop:=Zdg w p.bv p.blocks∧p.blocks.length≤100000
theorem Xu.keep {w w':World} {p : Z2} (h:Xu w p) (s:Since w w'):Xu w' p:=⟨RowIn.keep JF.keep h.1 s,h.2⟩
def pv (p:Z2):Value:=.agg #[.int .i64 p.params,.int .i64 p.k,.int .i64 p.slots,p.bv]
def insSum (l:List ZD):Nat:=(l.map fun b=>b.ins.length).sum
theorem Zat {l : List ZD} {j : Nat} {b : ZD} (h:l[j]? = some b):insSum (l.take (j+1))=insSum (l.take j)+b.ins.length:=by
 unfold insSum;exact jO
theorem Qt (M:Nat):∀ l:List ZD,(∀ b∈l,b.ins.length≤M)→insSum l≤l.length*M
 | [],_=>by simp[insSum]
 | b::r,h=>by
  have h1:=h b List.mem_cons_self
  have h2:=Qt M r fun x hx=>h x (List.mem_cons_of_mem _ hx)
  unfold insSum at h2 ⊢
  rw[List.map_cons,List.sum_cons,List.length_cons,Nat.succ_mul];omega
theorem W6 {k slots:Int}:∀ {l : List PlV} (i:Nat),(∀ x∈l,Yv x.m k slots=0)→YG k slots l i=none
 | [],_,_=>rfl
 | x::r,i,h=>by unfold YG;rw[if_pos (h x List.mem_cons_self)];exact W6 (i+1) fun y hy=>h y (List.mem_cons_of_mem _ hy)
theorem Ks {k slots:Int}:∀ {l : List PlV} {j : Nat} {x : PlV} (i:Nat),l[j]? = some x→(∀ (t:Nat) (y:PlV),t<j→l[t]? = some y→Yv y.m k slots=0)→Yv x.m k slots≠0→YG k slots l i=some (Yv x.m k slots,i+j)
 | [],_,_,_,h,_,_=>by cases h
 | y::r,0,x,i,h,_,hne=>by
  obtain rfl:y=x:=by simpa using h
  unfold YG;rw[if_neg hne];rfl
 | y::r,j+1,x,i,h,hall,hne=>by
  unfold YG
  rw[if_pos (hall 0 y kT rfl),Ks (i+1) kL (fun t z ht hz=>hall (t+1) z kT (by simpa using hz)) hne]
  congr 2;omega
theorem Va {k slots n:Int}:∀ {l : List ZD} (i:Nat),(∀ b∈l,X0 k slots n b=none)→YQ k slots n l i=none
 | [],_,_=>rfl
 | x::r,i,h=>by unfold YQ;rw[h x List.mem_cons_self];exact Va (i+1) fun y hy=>h y (List.mem_cons_of_mem _ hy)
theorem Ky {k slots n:Int}:∀ {l : List ZD} {j : Nat} {b : ZD} (i:Nat) {x : Int × Nat},l[j]? = some b→(∀ (t:Nat) (y:ZD),t<j→l[t]? = some y→X0 k slots n y=none)→X0 k slots n b=some x→YQ k slots n l i=some (x.1,i+j,x.2)
 | [],_,_,_,_,h,_,_=>by cases h
 | y::r,0,b,i,x,h,_,hb=>by
  obtain rfl:y=b:=by simpa using h
  unfold YQ;rw[hb];rfl
 | y::r,j+1,b,i,x,h,hall,hb=>by
  unfold YQ
  rw[hall 0 y kT rfl]
  dsimp only
  rw[Ky (i+1) kL (fun t z ht hz=>hall (t+1) z kT (by simpa using hz)) hb]
  congr 3;omega
def ZeN (x y z:Int) (w:World) (e:Ending) (w':World):Prop:=e=.returned (.tuple #[.int .i64 x,.int .i64 y,.int .i64 z])∧Since w w'
def FuncP (p:Z2):World→Ending→World→Prop:=ZeN (funcE p).1 ((funcE p).2.1:Nat) ((funcE p).2.2:Nat)
theorem ZcY (p:Z2) (w:World) (h:Xu w p):Calls Tryz.prog 16 #[pv p] w (FuncP p w):=by
 obtain⟨params,k,slots,blocks,bv⟩:=p;obtain⟨hb,Hp⟩:=h;dsimp only at hb Hp;obtain⟨ba,bc,rfl,Hy⟩:=hb.shape;have H:=hid hb;have Hx:insSum blocks≤10000000000:=by
  have h1:=Qt 100000 blocks (fun b hm=>by
   obtain⟨j,hj⟩:=List.getElem?_of_mem hm;obtain⟨_,_,x,_,_,hx,_,hD⟩:=RowIn.at H.out (List.getElem?_eq_some_iff.1 hj).1;rw[hj]at hx;cases hx
   exact hD.2.2)
  have h2:blocks.length*100000≤100000*100000:=Nat.mul_le_mul_right _ Hp;omega
 have hZ:∀ j,j≤blocks.length→insSum (blocks.take j)≤insSum blocks:=fun j _=>by
  have e:insSum blocks=insSum (blocks.take j)+insSum (blocks.drop j):=by
   unfold insSum;rw[←List.sum_append,←List.map_append,List.take_append_drop]
  omega
 have hQ:=hid hZ;have W1:=hid (fun w=>Xc params 0 4 w);have W2:=hid (fun w=>Xc k 4 16 w);have W3:=hid (fun w=>Xc slots 0 16384 w);clear hb hZ Hy;generalize hF:funcE ⟨params,k,slots,blocks,.slice ba blocks.length bc⟩=F;unfold FuncP;rw[hF];obtain⟨fe,fb,fp⟩:=F;have Hs:Vk ⟨params,k,slots,blocks,.slice ba blocks.length bc⟩=(if params<0∨4<params∨k<4∨16<k∨slots<0∨16384<slots then 1 else if blocks.length=0 then 14 else if 512<blocks.length∨65536<blocks.length+insSum blocks then 2 else 0):=rfl;have HF:=hid hF;have hK:=hid Hs;clear hF Hs;unfold funcE at HF;have h6:∀ c:Int,Vk ⟨params,k,slots,blocks,.slice ba blocks.length bc⟩=c→c≠0→fe=c∧fb=0∧fp=0:=fun c hc h0=>by
  have h1:=HF.out;rw[hc,if_neg h0]at h1;simp only[Prod.mk.injEq]at h1;exact⟨h1.1.symm,h1.2.1.symm,h1.2.2.symm⟩
 have hi:=hid h6;clear h6;unfold pv;dsimp only;go_enter Tryz.func16,Tryz.ntmps16
 go_wp2
 have HL:=hid Hx
 go_loopw [5,20] (fun n i wr=>∃ j:Nat,j≤blocks.length∧i=.int .i64 j∧n=.int .i64 ((blocks.length:Int)+((insSum (blocks.take j):Nat):Int))∧Since (w.alloc (.cells #[.int .i64 params,.int .i64 k,.int .i64 slots,.slice ba blocks.length bc] 27)) wr) (fun _ i _=>blocks.length-(intOf i).toNat)
 case atStart=>exact⟨0,Nat.zero_le _,rfl,by simp[insSum],.refl _⟩
 case round =>
  obtain⟨j,hj,rfl,rfl,hg⟩:=hrel;have hI:=hid hg;have HS:=hid (((Since.refl w).alloc (.cells #[.int .i64 params,.int .i64 k,.int .i64 slots,.slice ba blocks.length bc] 27)).trans hg);have hP:∀ i,wr.cell? ⟨w.heap.size,i,none⟩=_:=fun i=>hg.cell (p:=⟨w.heap.size,i,none⟩) kU
  have HG:=hid hP;have hq:w.heap.size<wr.heap.size:=by have:=hg.size;simp at this;omega
  have Hi:=hid hq;clear hg hq;by_cases h3:j<blocks.length
  ·clear hP;obtain⟨B,off,x,rfl,hB,hx,hc,hD⟩:=RowIn.at H.out h3;obtain⟨xins,xinsv,⟨eop,ea,eb,eto,etov,eimm⟩⟩:=x;obtain⟨hf,hd,hA⟩:=hD;dsimp only at hf hd hA;obtain⟨ia,ic,rfl,h4⟩:=hf.shape;obtain⟨ta,tc,rfl⟩:=Zb hd;unfold maxLen at h4;have ha:=fun t ht=>(HS.out.cell (p:=⟨B,off+j*6+t,none⟩) hB).trans (hc t ht)
   have c0:wr.cell? ⟨B,off+j*6,none⟩=some (.slice ia xins.length ic):=ha 0 kS;have c1:wr.cell? ⟨B,off+j*6+1,none⟩=some (.int .i64 eop):=ha 1 kS;have c2:wr.cell? ⟨B,off+j*6+2,none⟩=some (.int .i64 ea):=ha 2 kS;have c3:wr.cell? ⟨B,off+j*6+3,none⟩=some (.int .i64 eb):=ha 3 kS;have c4:wr.cell? ⟨B,off+j*6+4,none⟩=some (.slice ta eto.length tc):=ha 4 kS;have c5:wr.cell? ⟨B,off+j*6+5,none⟩=some (.int .i32 eimm):=ha 5 kS;clear ha hc hB;have hX:=Zat hx;have hp:=hQ.out j kT;have HM:=hQ.out (j+1) kT;have HP:=hid hX;dsimp only at hX;generalize insSum (blocks.take j)=sj at *;have HU:sj+xins.length≤10000000000:=kT
   clear hX hp HM hf hd hA hx;go_wp2
   go_roundw
   case rel=>exact⟨j+1,kT,by go_num,by rw[HP.out];exact congrArg (Value.int .i64) (by push_cast;omega),hI.out.alloc _⟩
   case measure=>simp[intOf];omega
  ·obtain rfl:j=blocks.length:=kT
   rw[List.take_length];have hp:=HL.out;generalize hN:insSum blocks=sN at *;clear hN hQ
   cases hG:(decide (0≤params)&&decide (params≤4)) with
   | false =>
    have he:params<0∨4<params∨k<4∨16<k∨slots<0∨16384<slots:=by simp at hG;omega
    have hJ:=hid he;have hl:=hid hG;clear hG he;have hh:=hi.out 1 (by rw[hK.out,if_pos hJ.out]) kS;obtain⟨rfl,rfl,rfl⟩:=hh;go_wp2_with fail
    refine (W1.out _).mono ?_;rw[hl.out];exact ji
   | true =>
   have hl:=hid hG;clear hG
   cases hE:(decide (4≤k)&&decide (k≤16)) with
   | false =>
    have he:params<0∨4<params∨k<4∨16<k∨slots<0∨16384<slots:=by simp at hE;omega
    have hJ:=hid he;have ho:=hid hE;clear hE he;have hh:=hi.out 1 (by rw[hK.out,if_pos hJ.out]) kS;obtain⟨rfl,rfl,rfl⟩:=hh;go_wp2_with fail
    refine (W1.out _).mono ?_;rw[hl.out];rintro e w1 ⟨rfl,rfl⟩;go_wp2_with fail
    refine (W2.out _).mono ?_;rw[ho.out];exact ji
   | true =>
   have ho:=hid hE;clear hE
   cases hv:(decide (0≤slots)&&decide (slots≤16384)) with
   | false =>
    have he:params<0∨4<params∨k<4∨16<k∨slots<0∨16384<slots:=by simp at hv;omega
    have hJ:=hid he;have hw:=hid hv;clear hv he;have hh:=hi.out 1 (by rw[hK.out,if_pos hJ.out]) kS;exact zB
   | true =>
   have hw:=hid hv;have he:¬ (params<0∨4<params∨k<4∨16<k∨slots<0∨16384<slots):=by
    have h1:=hl.out;have h2:=ho.out;simp at h1 h2 hv;omega
   have Ha:=hK.out;rw[if_neg he]at Ha;have Hh:=hid Ha;clear hv he Ha hK;by_cases h0:blocks.length=0
   ·have Hn:((blocks.length:Int)==0)=true:=by simp[h0]
    have hh:=hi.out 14 (by rw[Hh.out,if_pos h0]) kS;obtain⟨rfl,rfl,rfl⟩:=hh;have H0:=hid h0;clear h0;go_wp2_with fail
    refine (W1.out _).mono ?_;rw[hl.out];rintro e w1 ⟨rfl,rfl⟩;go_wp2_with fail
    refine (W2.out _).mono ?_;rw[ho.out];rintro e w1 ⟨rfl,rfl⟩;go_wp2_with fail
    refine (W3.out _).mono ?_;rw[hw.out];exact ji
   have Hn:((blocks.length:Int)==0)=false:=beq_eq_false_iff_ne.2 kT;have h9:=Hh.out;rw[if_neg h0]at h9;have hV:=hid h9;clear h9 Hh h0;by_cases h1:512<blocks.length
   ·have hh:=hi.out 2 (by rw[hV.out,if_pos (.inl h1)]) kS;exact zB
   have HO:decide ((512:Int)<(blocks.length:Int))=false:=by simp;omega
   by_cases h2:65536<blocks.length+sN
   ·have Hm:decide ((65536:Int)<(blocks.length:Int)+(sN:Int))=true:=by simp;omega
    have hh:=hi.out 2 (by rw[hV.out,if_pos (.inr h2)]) kS;exact zB
   have Hm:decide ((65536:Int)<(blocks.length:Int)+(sN:Int))=false:=by simp;omega
   have h8:=hV.out;rw[if_neg kT]at h8;have h7:=HF.out;rw[h8,if_pos rfl]at h7;have Hu:=hid h7;clear h8 h7 hV HF h1 h2 hi;go_wp2_with fail
   refine (W1.out _).mono ?_;rw[hl.out];rintro e w1 ⟨rfl,rfl⟩;go_wp2_with fail
   refine (W2.out _).mono ?_;rw[ho.out];rintro e w1 ⟨rfl,rfl⟩;go_wp2_with fail
   refine (W3.out _).mono ?_;rw[hw.out];rintro e w1 ⟨rfl,rfl⟩;go_wp2
   go_loopw [64] (fun i wr2=>∃ j:Nat,j≤blocks.length∧i=.int .i64 j∧(∀ (t:Nat) (y:ZD),t<j→blocks[t]? = some y→X0 k slots blocks.length y=none)∧Since (w.alloc (.cells #[.int .i64 params,.int .i64 k,.int .i64 slots,.slice ba blocks.length bc] 27)) wr2) (fun i _=>blocks.length-(intOf i).toNat)
   case atStart=>exact⟨0,Nat.zero_le _,rfl,fun t y ht=>by omega,hI.out⟩
   case round =>
    clear HG Hi HS hI Hn HO Hm hP;obtain⟨j,hj,rfl,hr,hg⟩:=hrel;have hR:=hid hr;have hI:=hid hg;have HS:=hid (((Since.refl w).alloc (.cells #[.int .i64 params,.int .i64 k,.int .i64 slots,.slice ba blocks.length bc] 27)).trans hg);have hq:w.heap.size<wr.heap.size:=by have:=hg.size;simp at this;omega
    have Hi:=hid hq;clear hg hq hr;by_cases h3:j<blocks.length
    ·obtain⟨B,off,x,rfl,hB,hx,hc,hD⟩:=RowIn.at H.out h3;obtain⟨xins,xinsv,⟨eop,ea,eb,eto,etov,eimm⟩⟩:=x;obtain⟨hf,hd,hA⟩:=hD;dsimp only at hf hd hA;obtain⟨ia,ic,rfl,h4⟩:=hf.shape;obtain⟨ta,tc,rfl⟩:=Zb hd;unfold maxLen at h4;have ha:=fun t ht=>(HS.out.cell (p:=⟨B,off+j*6+t,none⟩) hB).trans (hc t ht)
     have c0:wr.cell? ⟨B,off+j*6,none⟩=some (.slice ia xins.length ic):=ha 0 kS;have c1:wr.cell? ⟨B,off+j*6+1,none⟩=some (.int .i64 eop):=ha 1 kS;have c2:wr.cell? ⟨B,off+j*6+2,none⟩=some (.int .i64 ea):=ha 2 kS;have c3:wr.cell? ⟨B,off+j*6+3,none⟩=some (.int .i64 eb):=ha 3 kS;have c4:wr.cell? ⟨B,off+j*6+4,none⟩=some (.slice ta eto.length tc):=ha 4 kS;have c5:wr.cell? ⟨B,off+j*6+5,none⟩=some (.int .i32 eimm):=ha 5 kS;clear ha hc hB;have Hq:X0 k slots blocks.length ⟨xins,.slice ia xins.length ic,⟨eop,ea,eb,eto,.slice ta eto.length tc,eimm⟩⟩=(match YG k slots xins 0 with
      | some x=>some x
      | none=>if endE ⟨eop,ea,eb,eto,.slice ta eto.length tc,eimm⟩ k blocks.length=0 then none else some (endE ⟨eop,ea,eb,eto,.slice ta eto.length tc,eimm⟩ k blocks.length,xins.length)):=rfl
     have h5:∀ x,X0 k slots blocks.length ⟨xins,.slice ia xins.length ic,⟨eop,ea,eb,eto,.slice ta eto.length tc,eimm⟩⟩=some x→fe=x.1∧fb=j∧fp=x.2:=fun x HH=>by
      have:=Hu.out;rw[Ky 0 hx hR.out HH]at this;simp only[Option.getD_some,Prod.mk.injEq,Nat.zero_add]at this;exact⟨this.1.symm,this.2.1.symm,this.2.2.symm⟩
     have HE:=hid Hq;have Hg:=hid h5;have HX:=hid hx;have HI:=hid hf;have HT:=hid hd;have hM:=fun w2 (hs:Since w w2)=>ZaE ⟨eop,ea,eb,eto,.slice ta eto.length tc,eimm⟩ k blocks.length w2 (hd.keep hs)
     simp only[ev]at hM;generalize endE ⟨eop,ea,eb,eto,.slice ta eto.length tc,eimm⟩ k blocks.length=EE at *;have HD:=hid hM;clear Hq h5 hx hf hd hM;obtain⟨wa,HJ⟩:∃ x,x=wr:=⟨_,rfl⟩
     subst HJ;go_wp2
     go_loopw [72] (fun i wr=>∃ t:Nat,t≤xins.length∧i=.int .i64 t∧(∀ (u:Nat) (y:PlV),u<t→xins[u]? = some y→Yv y.m k slots=0)∧Since (wa.alloc (.cells #[.slice ia xins.length ic,.int .i64 eop,.int .i64 ea,.int .i64 eb,.slice ta eto.length tc,.int .i32 eimm] 34)) wr) (fun i _=>xins.length-(intOf i).toNat)
     case atStart=>exact⟨0,Nat.zero_le _,rfl,fun u y hu=>by omega,.refl _⟩
     case round =>
      clear c0 c1 c2 c3 c4 c5;obtain⟨t,ht,rfl,hr,hY⟩:=hrel;have hC:=hid hr;have hT:=(hI.out.alloc (.cells #[.slice ia xins.length ic,.int .i64 eop,.int .i64 ea,.int .i64 eb,.slice ta eto.length tc,.int .i32 eimm] 34)).trans hY;have Hf:=hid hT;have hH:=hid (Since.trans ((Since.refl w).alloc _) hT);have Hc:=hid hY;have hS:w.heap.size<wr.heap.size:=by have:=hT.size;simp at this;omega
      have HR:=hid hS;clear hY hT hr hS;by_cases Hz:t<xins.length
      ·obtain⟨B2,off2,y,rfl,Ht,hy,Ho,Hw⟩:=RowIn.at HI.out Hz;obtain⟨ym,yav,ysrc⟩:=y;obtain⟨hW,Hk,_⟩:Zi w yav ym.args∧Yw ym∧_:=Hw;obtain⟨ya,yc,rfl⟩:=Zb hW;have ha:=fun t' HK=>(hH.out.cell (p:=⟨B2,off2+t*9+t',none⟩) Ht).trans (Ho t' HK)
       have c0:wr.cell? ⟨B2,off2+t*9,none⟩=some (.int .i64 ym.op):=ha 0 kS;have c1:wr.cell? ⟨B2,off2+t*9+1,none⟩=some (.int .i64 ym.d):=ha 1 kS;have c2:wr.cell? ⟨B2,off2+t*9+2,none⟩=some (.int .i64 ym.e):=ha 2 kS;have c3:wr.cell? ⟨B2,off2+t*9+3,none⟩=some (.int .i64 ym.a):=ha 3 kS;have c4:wr.cell? ⟨B2,off2+t*9+4,none⟩=some (.int .i64 ym.b):=ha 4 kS;have c5:wr.cell? ⟨B2,off2+t*9+5,none⟩=some (.int .i64 ym.c):=ha 5 kS;have c6:wr.cell? ⟨B2,off2+t*9+6,none⟩=some (.int .i32 ym.imm):=ha 6 kS;have c7:wr.cell? ⟨B2,off2+t*9+7,none⟩=some (.slice ya ym.args.length yc):=ha 7 kS;have c8:wr.cell? ⟨B2,off2+t*9+8,none⟩=some (.int .i64 ysrc):=ha 8 kS;have hO:∀ i,(wr.alloc (.cells #[.int .i64 ym.op,.int .i64 ym.d,.int .i64 ym.e,.int .i64 ym.a,.int .i64 ym.b,.int .i64 ym.c,.int .i32 ym.imm,.slice ya ym.args.length yc,.int .i64 ysrc] 38)).cell? ⟨w.heap.size,i,none⟩=_:=fun i=>(Hf.out.alloc _).cell (p:=⟨w.heap.size,i,none⟩) kU
       have hL:=KY ym (.slice ya ym.args.length yc) k slots _ (hW.keep (hH.out.alloc (.cells #[.int .i64 ym.op,.int .i64 ym.d,.int .i64 ym.e,.int .i64 ym.a,.int .i64 ym.b,.int .i64 ym.c,.int .i32 ym.imm,.slice ya ym.args.length yc,.int .i64 ysrc] 38))) Hk;unfold mv at hL;have Hl:Yv ym k slots≠0→YG k slots xins 0=some (Yv ym k slots,0+t):=fun HN=>Ks 0 hy hC.out HN
       have HQ:=hid Hl;have HY:=hid hy;generalize Hr:Yv ym k slots=IE at *;have HC:=hid Hr;clear Hr;have HB:=hid hL;clear ha Ho Ht hy hW Hk hL Hl;go_wp2_with fail
       refine HB.out.mono ?_;rintro e3 w3 ⟨rfl,hn⟩;have He:=hid (Hc.out.trans ((Since.refl wr).alloc _ |>.trans hn));have Hb:=hid (hH.out.trans ((Since.refl wr).alloc _ |>.trans hn));clear hn hO c0 c1 c2 c3 c4 c5 c6 c7 c8;by_cases hz:IE=0
       ·have hb:(IE != 0)=false:=by simp[hz]
        have HZ:=hid hz;clear hz;go_wp2
        go_roundw
        case rel=>exact⟨t+1,kT,by go_num,fun u y hu hy=>by
         by_cases e:u=t
         ·subst e;rw[HY.out]at hy;cases hy;exact HC.out.trans HZ.out
         ·exact hC.out u y kT hy,He.out⟩
        case measure=>simp[intOf];omega
       ·have hb:(IE != 0)=true:=by simpa using hz
        have hh:=Hg.out (IE,t) (by rw[HE.out,HQ.out hz,Nat.zero_add]);obtain⟨rfl,rfl,rfl⟩:=hh;clear hz;go_wp2
        go_ret3
        exact⟨rfl,Hb.out⟩
      ·obtain rfl:t=xins.length:=kT
       have hk:YG k slots xins 0=none:=W6 0 fun y hy=>by
        obtain⟨u,hu⟩:=List.getElem?_of_mem hy;exact hC.out u y (List.getElem?_eq_some_iff.1 hu).1 hu
       have hU:=HE.out;rw[hk]at hU;dsimp only at hU;have Hv:=hid hU;have hO:∀ i,wr.cell? ⟨w.heap.size,i,none⟩=_:=fun i=>Hf.out.cell (p:=⟨w.heap.size,i,none⟩) kU
       have HA:∀ i,wr.cell? ⟨wa.heap.size,i,none⟩=_:=fun i=>Hc.out.cell (p:=⟨wa.heap.size,i,none⟩) kU
       clear hU hk;go_wp2_with fail
       refine (HD.out _ hH.out).mono ?_;rintro e3 w3 ⟨rfl,hn⟩;have Hj:∀ i,w3.cell? ⟨wa.heap.size,i,none⟩=_:=fun i=>(Hc.out.trans hn).cell (p:=⟨wa.heap.size,i,none⟩) kU
       have Hb:=hid (hH.out.trans hn);have He:=hid (Hf.out.trans hn);clear hn hO HA;by_cases hz:EE=0
       ·have hb:(EE != 0)=false:=by simp[hz]
        have HZ:=hid hz;clear hz;clear Hj;go_wp2
        go_roundw
        case rel=>exact⟨j+1,kT,by go_num,fun u y hu hy=>by
         by_cases e:u=j
         ·subst e;rw[HX.out]at hy;cases hy;rw[Hv.out,if_pos HZ.out]
         ·exact hR.out u y kT hy,He.out⟩
        case measure=>simp[intOf];omega
       ·have hb:(EE != 0)=true:=by simpa using hz
        have hh:=Hg.out (EE,xins.length) (by rw[Hv.out,if_neg hz]);obtain⟨rfl,rfl,rfl⟩:=hh;clear hz;go_wp2_with fail
        go_quiet (fail)
        go_wp2
        go_ret3
        exact⟨rfl,Since.drewN Hb.out _⟩
    ·obtain rfl:j=blocks.length:=kT
     have hk:YQ k slots blocks.length blocks 0=none:=Va 0 fun y hy=>by
      obtain⟨u,hu⟩:=List.getElem?_of_mem hy;exact hR.out u y (List.getElem?_eq_some_iff.1 hu).1 hu
     have hh:=Hu.out;rw[hk]at hh;simp only[Option.getD_none,Prod.mk.injEq]at hh;obtain⟨rfl,rfl,rfl⟩:=hh;clear hk;go_wp2
     go_ret3
     exact⟨rfl,HS.out⟩
theorem Qf (p:Z2) (w:World) (h:Xu w p):Calls Tryz.prog 34 #[pv p] w (TellsS (rightB p) w):=by
 obtain⟨ba,bc,hb,_⟩:=h.1.shape;have ha:=fun w2 (hs:Since w w2)=>ZcY p w2 (h.keep hs)
 unfold rightB;unfold FuncP at ha;generalize (funcE p).1=fe at *;generalize (funcE p).2.1=fb at *;generalize (funcE p).2.2=fp at *;have HF:=hid ha;clear ha h;unfold pv at HF;unfold pv;rw[hb]at HF ⊢;clear hb;go_enter Tryz.func34,Tryz.ntmps34
 go_wp2_with fail
 refine (HF.out _ ((Since.refl _).alloc _)).mono ?_;rintro e w1 ⟨rfl,hc⟩;go_wp2
 go_ret
 exact⟨rfl,((Since.refl _).alloc _).trans hc⟩
def Zdk (a b:List Int):Bool:=decide (a=b)
def Wi (x y:Yb):Bool:=x.op==y.op&&(x.a==y.a&&(x.b==y.b&&(x.imm==y.imm&&Zdk x.to y.to)))
def bkv (b:ZD):Value:=.agg #[b.insv,.int .i64 b.fin.op,.int .i64 b.fin.a,.int .i64 b.fin.b,b.fin.tov,.int .i32 b.fin.imm]
theorem Zb2 {H : Type} {enc:TypeId × Value→H} {w : World} {base:Nat} {ha:Bool} {v : Value} {d : DataW H} {p : List MemPlace} {r : Reach} {b0:Nat} (hv:Value.okWide Tryz.prog w r b0 22 v)
  (h:DataW.Trod enc Tryz.prog w base (fun _=>true) ha 22 v d p):∃ l:List Int,Zi w v l∧∀ n∈l,(Lit.int .i64 n).wf=true:=by
 obtain⟨a,len,cap,rfl⟩:=okWide_slice Tryz.underlying22 hv;obtain⟨fuel,hf⟩:=h;exact ZbQ Tryz.underlying22 Tryz.underlying3 Tryz.cellsInt (by simpa [Value.cells]using hf)
end Go.Proofs.YtimpddecdodddaaGreat
