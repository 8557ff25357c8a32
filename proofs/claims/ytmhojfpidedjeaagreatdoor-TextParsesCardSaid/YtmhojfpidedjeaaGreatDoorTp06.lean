import Derived.Test.YtmhojfpidedjeaaGreatDoorTp01
import Derived.Test.YtmhojfpidedjeaaGreatDoorTp05
namespace Go.Proofs.YtmhojfpidedjeaaGreatDoor
open Go.RowKit Go.Lib
set_option linter.unusedVariables false
set_option maxHeartbeats 2000000
set_option maxRecDepth 100000
structure FIns where
 op:Int
 dst:Int
 two:Int
 args:List Int
 av:Value
 imm:Int
structure ZC where
 dst:Int
 ins:List (Int × Int)
 inv:Value
structure Zt where
 kind:Int
 args:List Int
 argsv:Value
 «to» : List Int
 tov:Value
 imm:Int
structure FBlk where
 phis:List ZC
 phv:Value
 ins:List FIns
 inv:Value
 term:Zt
structure FnV where
 params:Int
 blocks:List FBlk
 bv:Value
def ZA (x:FIns):List Value:=[.int .i64 x.op,.int .i64 x.dst,.int .i64 x.two,x.av,.int .i32 x.imm]
theorem Xk (x:FIns):(ZA x).length=5:=rfl
def prcells (x:Int × Int):List Value:=[.int .i64 x.1,.int .i64 x.2]
theorem YB (x:Int × Int):(prcells x).length=2:=rfl
def fpcells (x:ZC):List Value:=[.int .i64 x.dst,x.inv]
theorem YR (x:ZC):(fpcells x).length=2:=rfl
def ZcP (x:Zt):List Value:=[.int .i64 x.kind,x.argsv,x.tov,.int .i32 x.imm]
def fbcells (x:FBlk):List Value:=[x.phv,x.inv,.int .i64 x.term.kind,x.term.argsv,x.term.tov,.int .i32 x.term.imm]
theorem Zs (x:FBlk):(fbcells x).length=6:=rfl
def fiv (x:FIns):Value:=.agg #[.int .i64 x.op,.int .i64 x.dst,.int .i64 x.two,x.av,.int .i32 x.imm]
def fv (f:FnV):Value:=.agg #[.int .i64 f.params,f.bv]
def Wd (w:World) (x:FIns):Prop:=Zm w x.av x.args
abbrev YI (w:World) (v:Value) (l:List (Int × Int)):Prop:=RowIn prcells 2 (fun _ _=>True) w v l
def VR (w:World) (x:ZC):Prop:=YI w x.inv x.ins
def XM (w:World) (x:Zt):Prop:=Zm w x.argsv x.args∧Zm w x.tov x.to
def We (w:World) (b:FBlk):Prop:=RowIn fpcells 2 VR w b.phv b.phis∧RowIn ZA 5 Wd w b.inv b.ins∧XM w b.term
def FnIn (w:World) (f:FnV):Prop:=RowIn fbcells 6 We w f.bv f.blocks
theorem YI.keep {w w':World} {v : Value} {l : List (Int × Int)} (h:YI w v l) (s:Since w w'):YI w' v l:=RowIn.keep (fun _ _ _ _ _=>trivial) h s
theorem Wd.keep (w w':World) (x:FIns) (h:Wd w x) (s:Since w w'):Wd w' x:=ZN.keep h s
theorem VR.keep (w w':World) (x:ZC) (h:VR w x) (s:Since w w'):VR w' x:=YI.keep h s
theorem XM.keep {w w':World} {x : Zt} (h:XM w x) (s:Since w w'):XM w' x:=⟨h.1.keep s,h.2.keep s⟩
theorem We.keep (w w':World) (b:FBlk) (h:We w b) (s:Since w w'):We w' b:=⟨RowIn.keep VR.keep h.1 s,RowIn.keep Wd.keep h.2.1 s,h.2.2.keep s⟩
theorem FnIn.keep {w w':World} {f : FnV} (h:FnIn w f) (s:Since w w'):FnIn w' f:=RowIn.keep We.keep h s
theorem HeapIs.kept {B b k:Nat} {w w':World} {cs:Array Value} {T : TypeId} (h:HeapIs w k cs T) (hk:Kept B b w w') (hb:k≠b) (hT:T≠5):HeapIs w' k cs T:=hk.heap h hb hT
theorem WQ {B b:Nat} {w : World} (its:List It) (cs:Array Value) (n:Nat) (ha:cs=(its.flatMap itc).toArray) (hn:n=its.length) (hm:its.length≤1000) (hb:b<w.heap.size) (hw:∀ x∈its,∀ w',Kept B b w w'→WX w' x) (hB:B≤w.heap.size) :
  ∀ w',Kept B b (w.alloc (.cells cs 20)) w'→Zbg w' (.slice (some ⟨w.heap.size,0,none⟩) n n) its:=by
 subst hn;subst ha;intro w' hk;have hh:=HeapIs.kept (HeapIs.new w _ _) hk (by omega) (by decide);refine .inr ⟨w.heap.size,0,its.length,rfl,Nat.le_refl _,by unfold maxLen;omega,hh.lt,fun j x hx=>⟨fun t ht=>?_,hw x (List.mem_of_getElem? hx) w' ((Kept.since ((Since.refl _).alloc _) hB).trans hk)⟩⟩
 obtain rfl:t=0:=by omega
 rw[show 0+j*1+0=j*1+0 from by omega,hh.cell,List.getElem?_toArray,YP itc 1 (fun x=>by cases x<;>rfl) its j 0 x hx (by decide)]
def FIns.d (x:FIns):Zaq:=⟨x.op,x.dst,x.two,x.args,x.imm⟩
def ZC.d (x:ZC):ZdM:=⟨x.dst,x.ins⟩
def Zt.d (x:Zt):Kt:=⟨x.kind,x.args,x.to,x.imm⟩
def FBlk.d (x:FBlk):Y1:=⟨x.phis.map ZC.d,x.ins.map FIns.d,x.term.d⟩
def FnV.d (f:FnV):DFn:=⟨f.params,f.blocks.map FBlk.d⟩
structure ZdJ (x:FIns):Prop where
 op:ZO x.op
 dst:ZO x.dst
 two:ZO x.two
 args:∀ y∈x.args,ZO y
 imm:In32W x.imm
theorem WR {α:Type} (f:α→List Value) (sz:Nat) (hf:∀ x,(f x).length=sz):∀ (l:List α) (i t:Nat) (x x':α) (y:Value),l[i]? = some x→t<sz→f x'=(f x).set t y→(l.flatMap f).set (i*sz+t) y=(l.set i x').flatMap f
 | [],i,t,x,x',y,h,_,_=>by simp at h
 | z::r,0,t,x,x',y,h,ht,e=>by
  simp at h
  subst h
  rw[List.flatMap_cons,Nat.zero_mul,Nat.zero_add,List.set_append_left _ _ (by rw[hf];exact ht),←e,List.set_cons_zero,List.flatMap_cons]
 | z::r,i+1,t,x,x',y,h,ht,e=>by
  have ih:=WR f sz hf r i t x x' y (by simpa using h) ht e
  rw[List.flatMap_cons,List.set_append_right _ _ (by rw[hf,Nat.succ_mul];omega),hf,show (i+1)*sz+t-sz=i*sz+t from by rw[Nat.succ_mul];omega,ih,List.set_cons_succ,List.flatMap_cons]
theorem Turn.later {S R:Nat→Prop} {a b c:World} (h:Turn S a b) (t:Turn R b c) (hR:∀ q,R q→S q∨a.heap.size≤q):Turn S a c:=
 ((h.mono fun _ _ hs=>Or.inl hs:Turn (fun q=>S q∨a.heap.size≤q) a b).trans (t.mono fun q _ hq=>hR q hq)).mono fun q hq hs=>by
  rcases hs with hs|hs
  ·exact hs
  ·omega
theorem RowIn.turn2 {α:Type} {f : α→List Value} {sz:Nat} {p p':World→α→Prop} {R : Nat→Prop} {w w':World} {v : Value} {l : List α} (h:RowIn f sz p w v l) (t:Turn R w w') (hn:∀ q,v.ownBlock=some q→¬ R q) (hp:∀ x∈l,p w x→p' w' x):RowIn f sz p' w' v l:=by
 rcases h with h|⟨b,off,cap,h1,h2,h3,h4,h5⟩
 ·exact .inl h
 ·exact .inr ⟨b,off,cap,h1,h2,h3,Nat.lt_of_lt_of_le h4 t.size,fun j x hj=>⟨fun u hu=>by rw[t.cell (p:=⟨b,off+j*sz+u,none⟩) h4 (hn b (by rw[h1];rfl))];exact (h5 j x hj).1 u hu,hp x (List.mem_of_getElem? hj) (h5 j x hj).2⟩⟩
def Vy (S:Nat→Prop) (w:World) (p:ZC):Prop:=YI w p.inv p.ins∧Stays S w p.inv
def WK (S:Nat→Prop) (w:World) (x:FIns):Prop:=Zm w x.av x.args∧Stays S w x.av
structure WJ (S:Nat→Prop) (w:World) (t:Zt):Prop where
 read:XM w t
 ar:Stays S w t.argsv
 tg:Stays S w t.tov
structure VS (S:Nat→Prop) (w:World) (b:FBlk):Prop where
 phis:RowIn fpcells 2 (Vy S) w b.phv b.phis
 phs:Stays S w b.phv
 ins:RowIn ZA 5 (WK S) w b.inv b.ins
 inss:Stays S w b.inv
 term:WJ S w b.term
structure BkLast (S:Nat→Prop) (w:World) (b:FBlk):Prop where
 phis:OwnRow fpcells 2 60 0 w b.phv b.phis
 phi:∀ p∈b.phis,Vy S w p
 ins:OwnRow ZA 5 51 0 w b.inv b.ins
 inx:∀ x∈b.ins,WK S w x
 term:WJ S w b.term
section
variable {S S' R:Nat→Prop} {w w':World}
theorem Vy.turn {p : ZC} (h:Vy S w p) (t:Turn R w w') (hR:∀ q,R q→S q) (hS:∀ q,S' q→S q∨w.heap.size≤q):Vy S' w' p:=
 ⟨RowIn.turn h.1 t (fun q hq hr=>(h.2 q hq).1 (hR q hr)) (fun _ _ _=>trivial),h.2.mono hS t.size⟩
theorem WK.turn {x : FIns} (h:WK S w x) (t:Turn R w w') (hR:∀ q,R q→S q) (hS:∀ q,S' q→S q∨w.heap.size≤q):WK S' w' x:=
 ⟨ZN.turn h.1 t fun q hq hr=>(h.2 q hq).1 (hR q hr),h.2.mono hS t.size⟩
theorem WJ.turn {x : Zt} (h:WJ S w x) (t:Turn R w w') (hR:∀ q,R q→S q) (hS:∀ q,S' q→S q∨w.heap.size≤q):WJ S' w' x:=
 ⟨⟨ZN.turn h.read.1 t fun q hq hr=>(h.ar q hq).1 (hR q hr),ZN.turn h.read.2 t fun q hq hr=>(h.tg q hq).1 (hR q hr)⟩,h.ar.mono hS t.size,h.tg.mono hS t.size⟩
theorem VS.turn {b : FBlk} (h : VS S w b) (t : Turn R w w') (hR : ∀ q, R q → S q) (hS : ∀ q, S' q → S q ∨ w.heap.size ≤ q) : VS S' w' b :=
  ⟨RowIn.turn2 h.phis t (fun q hq hr => (h.phs q hq).1 (hR q hr)) (fun p _ hp => hp.turn t hR hS), h.phs.mono hS t.size,
   RowIn.turn2 h.ins t (fun q hq hr => (h.inss q hq).1 (hR q hr)) (fun x _ hx => hx.turn t hR hS), h.inss.mono hS t.size, h.term.turn t hR hS⟩
end
def PaOwn (pb:Nat) (bv:Value) (bl:List FBlk) (q:Nat):Prop:=q=pb∨bv.ownBlock=some q∨∃ b,bl[bl.length-1]? = some b∧(b.phv.ownBlock=some q∨b.inv.ownBlock=some q)
def PaS (w0:World) (pb:Nat) (bv:Value) (bl:List FBlk) (q:Nat):Prop:=PaOwn pb bv bl q∨q<w0.heap.size
structure PaM (T:TypeId) (w0:World) (pb:Nat) (tl:List Value) (params pl e:Int) (bv:Value) (bl:List FBlk) (w:World):Prop where
 box:HeapIs w pb (.int .i64 params::bv::.int .i64 pl::.int .i64 e::tl).toArray T
 row:OwnRow fbcells 6 57 0 w bv bl
 early:∀ i b,bl[i]? = some b→i+1<bl.length→VS (PaS w0 pb bv bl) w b
 last:∀ b,bl[bl.length-1]? = some b→BkLast (PaS w0 pb bv bl) w b
 old:Since w0 w
 new:∀ q,PaOwn pb bv bl q→w0.heap.size≤q
 kind:T≠57∧T≠60∧T≠51
section
variable {T : TypeId} {w0 w w':World} {pb:Nat} {tl:List Value} {params pl e:Int} {bv:Value} {bl:List FBlk}
theorem PaM.cell (h:PaM T w0 pb tl params pl e bv bl w) (i:Nat):w.cell? ⟨pb,i,none⟩=(.int .i64 params::bv::.int .i64 pl::.int .i64 e::tl)[i]?:=by rw[h.box.cell,List.getElem?_toArray]
theorem BkLast.since {S : Nat→Prop} {b : FBlk} (h:BkLast S w b) (s:Since w w') (hS:∀ q,S q→q<w.heap.size):BkLast S w' b:=
 have hs:∀ q,S q→S q∨w.heap.size≤q:=fun q hq=>.inl hq
 have t:Turn (fun _=>False) w w':=Turn.since s
 ⟨OwnRow.keep h.phis s,fun p hp=>(h.phi p hp).turn t (fun _ h=>h.elim) hs,OwnRow.keep h.ins s,fun x hx=>(h.inx x hx).turn t (fun _ h=>h.elim) hs,h.term.turn t (fun _ h=>h.elim) hs⟩
theorem PaM.lt (h:PaM T w0 pb tl params pl e bv bl w):∀ q,PaOwn pb bv bl q→q<w.heap.size:=by
 rintro q (rfl|hq|⟨b,hb,hq|hq⟩)
 ·exact h.box.lt
 ·exact (World.ownsRow.lt h.row q hq).2
 ·exact (World.ownsRow.lt (h.last b hb).phis q hq).2
 ·exact (World.ownsRow.lt (h.last b hb).ins q hq).2
theorem PaM.ltS (h:PaM T w0 pb tl params pl e bv bl w):∀ q,PaS w0 pb bv bl q→q<w.heap.size:=by
 rintro q (hq|hq)
 ·exact h.lt q hq
 ·exact Nat.lt_of_lt_of_le hq h.old.size
theorem PaM.keep (h:PaM T w0 pb tl params pl e bv bl w) (s:Since w w'):PaM T w0 pb tl params pl e bv bl w':=
 ⟨h.box.keep s,OwnRow.keep h.row s,fun i b hb hi=>(h.early i b hb hi).turn (R:=fun _=>False) (Turn.since s) (fun _ h=>h.elim) (fun q hq=>.inl hq),fun b hb=>(h.last b hb).since s h.ltS,h.old.trans s,h.new,h.kind⟩
theorem PaM.put (h:PaM T w0 pb tl params pl e bv bl w) (i:Nat) (x:Value) {params' pl' e':Int} {tl':List Value} (hx:(.int .i64 params::bv::.int .i64 pl::.int .i64 e::tl).set i x=.int .i64 params'::bv::.int .i64 pl'::.int .i64 e'::tl'):PaM T w0 pb tl' params' pl' e' bv bl (w.setCell ⟨pb,i,none⟩ x):=by
 have t:Turn (fun q=>q=pb) w (w.setCell ⟨pb,i,none⟩ x):=(Turn.refl (fun q=>q=pb) w).setCell (p:=⟨pb,i,none⟩) rfl x;have hR:∀ q,q=pb→PaS w0 pb bv bl q:=fun q hq=>.inl (.inl hq)
 have hS:∀ q,PaS w0 pb bv bl q→PaS w0 pb bv bl q∨w.heap.size≤q:=fun q hq=>.inl hq
 have hb:=h.box.set i x;rw[List.setIfInBounds_toArray,hx]at hb;refine⟨hb,Zi h.row t fun q hq hr=>?_,fun j b hj hi=>(h.early j b hj hi).turn t hR hS,fun b hl=>?_,t.toSince h.old fun q hq hr=>?_,h.new,h.kind⟩
 ·subst hr;exact Zk h.row h.box (Ne.symm h.kind.1) hq
 ·have ha:=h.last b hl;exact⟨Zi ha.phis t fun q hq hr=>by subst hr;exact Zk ha.phis h.box (Ne.symm h.kind.2.1) hq,fun p hp=>(ha.phi p hp).turn t hR hS,Zi ha.ins t fun q hq hr=>by subst hr;exact Zk ha.ins h.box (Ne.symm h.kind.2.2) hq,fun y hy=>(ha.inx y hy).turn t hR hS,ha.term.turn t hR hS⟩
 ·have:=h.new q (.inl hr);omega
theorem PaM.reBox (h:PaM T w0 pb tl params pl e bv bl w) (t:Turn (fun q=>q=pb) w w') {params' pl' e':Int} {tl':List Value} (hb:HeapIs w' pb (.int .i64 params'::bv::.int .i64 pl'::.int .i64 e'::tl').toArray T):PaM T w0 pb tl' params' pl' e' bv bl w':=by
 have hR:∀ q,q=pb→PaS w0 pb bv bl q:=fun q hq=>.inl (.inl hq)
 have hS:∀ q,PaS w0 pb bv bl q→PaS w0 pb bv bl q∨w.heap.size≤q:=fun q hq=>.inl hq
 refine⟨hb,Zi h.row t fun q hq hr=>?_,fun j b hj hi=>(h.early j b hj hi).turn t hR hS,fun b hl=>?_,t.toSince h.old fun q hq hr=>?_,h.new,h.kind⟩
 ·subst hr;exact Zk h.row h.box (Ne.symm h.kind.1) hq
 ·have ha:=h.last b hl;exact⟨Zi ha.phis t fun q hq hr=>by subst hr;exact Zk ha.phis h.box (Ne.symm h.kind.2.1) hq,fun p hp=>(ha.phi p hp).turn t hR hS,Zi ha.ins t fun q hq hr=>by subst hr;exact Zk ha.ins h.box (Ne.symm h.kind.2.2) hq,fun y hy=>(ha.inx y hy).turn t hR hS,ha.term.turn t hR hS⟩
 ·have:=h.new q (.inl hr);omega
theorem PaM.updG (h:PaM T w0 pb tl params pl e bv bl w) {b b':FBlk} (hb:bl[bl.length-1]? = some b) {bb cap:Nat} (hy:bv=.slice (some ⟨bb,0,none⟩) bl.length cap) {w1 w2:World} (t:Turn (fun q=>b.phv.ownBlock=some q∨b.inv.ownBlock=some q) w w1) (t2:Turn (fun q=>q=bb) w1 w2) (ho:OwnRow fbcells 6 57 0 w1 bv bl→OwnRow fbcells 6 57 0 w2 bv (bl.set (bl.length-1) b'))
  (hp:OwnRow fpcells 2 60 0 w1 b'.phv b'.phis) (hi:OwnRow ZA 5 51 0 w1 b'.inv b'.ins) (np:ZP w b.phv b'.phv) (ni:ZP w b.inv b'.inv) (hs:∀ p∈b'.phis,Vy (PaS w0 pb bv bl) w p) (ht:∀ x∈b'.ins,WK (PaS w0 pb bv bl) w x) (hk:WJ (PaS w0 pb bv bl) w b'.term) :
  PaM T w0 pb tl params pl e bv (bl.set (bl.length-1) b') w2:=by
 subst hy;have hn:0<bl.length:=by
  rcases Nat.eq_zero_or_pos bl.length with h0|h0
  ·rw[List.length_eq_zero_iff.1 h0]at hb;simp at hb
  ·exact h0
 have hc:=h.last b hb;have hl:(bl.set (bl.length-1) b')[bl.length-1]? = some b':=by rw[List.getElem?_set_self (by omega)]
 have hd:(bl.set (bl.length-1) b').length=bl.length:=List.length_set ..;obtain⟨cur,hz⟩:=Xz h.row (q:=bb) rfl;have hj:∀ q,(b.phv.ownBlock=some q∨b.inv.ownBlock=some q)→PaOwn pb (.slice (some ⟨bb,0,none⟩) bl.length cap) bl q:=fun q hq=>.inr (.inr ⟨b,hb,hq⟩)
 have he:OwnRow fbcells 6 57 0 w1 (.slice (some ⟨bb,0,none⟩) bl.length cap) bl:=Zi h.row t fun q hq hr=>by
  rcases hr with hr|hr
  ·exact Z9 h.row hc.phis (by decide) q hq hr
  ·exact Z9 h.row hc.ins (by decide) q hq hr
 obtain⟨cur1,hh⟩:=Xz he (q:=bb) rfl;have t3:Turn (fun q=>(b.phv.ownBlock=some q∨b.inv.ownBlock=some q)∨q=bb) w w2:=(t.mono fun _ _ h=>.inl h).trans (t2.mono fun _ _ h=>.inr h)
 have hm:∀ q,((b.phv.ownBlock=some q∨b.inv.ownBlock=some q)∨q=bb)→PaOwn pb (.slice (some ⟨bb,0,none⟩) bl.length cap) bl q:=fun q hq=>by
  rcases hq with hq|rfl
  ·exact hj q hq
  ·exact .inr (.inl rfl)
 have hS:∀ q,PaOwn pb (.slice (some ⟨bb,0,none⟩) bl.length cap) (bl.set (bl.length-1) b') q→PaOwn pb (.slice (some ⟨bb,0,none⟩) bl.length cap) bl q∨w.heap.size≤q:=by
  rintro q (rfl|hq|⟨c,ha,hq⟩)
  ·exact .inl (.inl rfl)
  ·exact .inl (.inr (.inl hq))
  ·rw[hd,hl]at ha;obtain rfl:=Option.some.inj ha;rcases hq with hq|hq
   ·rcases np q hq with h1|h1
    ·exact .inl (hj q (.inl h1))
    ·exact .inr h1
   ·rcases ni q hq with h1|h1
    ·exact .inl (hj q (.inr h1))
    ·exact .inr h1
 have hf:∀ q,PaS w0 pb (.slice (some ⟨bb,0,none⟩) bl.length cap) (bl.set (bl.length-1) b') q→PaS w0 pb (.slice (some ⟨bb,0,none⟩) bl.length cap) bl q∨w.heap.size≤q:=fun q hq=>by
  rcases hq with hq|hq
  ·rcases hS q hq with h1|h1
   ·exact .inl (.inl h1)
   ·exact .inr h1
  ·exact .inl (.inr hq)
 have hg:∀ q,((b.phv.ownBlock=some q∨b.inv.ownBlock=some q)∨q=bb)→PaS w0 pb (.slice (some ⟨bb,0,none⟩) bl.length cap) bl q:=fun q hq=>.inl (hm q hq)
 have hv:∀ q,((b.phv.ownBlock=some q∨b.inv.ownBlock=some q)∨q=bb)→q≠pb:=by
  rintro q ((hq|hq)|rfl) rfl
  ·exact Zk hc.phis h.box (Ne.symm h.kind.2.1) hq
  ·exact Zk hc.ins h.box (Ne.symm h.kind.2.2) hq
  ·exact Zk h.row h.box (Ne.symm h.kind.1) rfl
 refine⟨h.box.turn t3 fun hq=>hv pb hq rfl,?_,fun i c ha hi=>?_,fun c ha=>?_,t3.toSince h.old fun q hq hr=>?_,fun q hq=>?_,h.kind⟩
 ·exact ho he
 ·rw[hd]at hi;rw[List.getElem?_set_ne (by omega)]at ha;exact (h.early i c ha hi).turn t3 hg hf
 ·rw[hd,hl]at ha;obtain rfl:=Option.some.inj ha;exact⟨Zi hp t2 fun q hq hr=>by subst hr;exact Zk hp hh (by decide) hq,fun p hu=>(hs p hu).turn t3 hg hf,Zi hi t2 fun q hq hr=>by subst hr;exact Zk hi hh (by decide) hq,fun x hx=>(ht x hx).turn t3 hg hf,hk.turn t3 hg hf⟩
 ·have:=h.new q (hm q hr);omega
 ·rcases hS q hq with h1|h1
  ·exact h.new q h1
  ·have:=h.old.size;omega
theorem PaM.upd (h:PaM T w0 pb tl params pl e bv bl w) {b b':FBlk} (hb:bl[bl.length-1]? = some b) {bb cap:Nat} (hg:bv=.slice (some ⟨bb,0,none⟩) bl.length cap) {w1:World} (t:Turn (fun q=>b.phv.ownBlock=some q∨b.inv.ownBlock=some q) w w1) (u:Nat) (hu:u<6) (v:Value) (hc:fbcells b'=(fbcells b).set u v)
  (hp:OwnRow fpcells 2 60 0 w1 b'.phv b'.phis) (hi:OwnRow ZA 5 51 0 w1 b'.inv b'.ins) (np:ZP w b.phv b'.phv) (ni:ZP w b.inv b'.inv) (he:∀ p∈b'.phis,Vy (PaS w0 pb bv bl) w p) (hf:∀ x∈b'.ins,WK (PaS w0 pb bv bl) w x) (ha:WJ (PaS w0 pb bv bl) w b'.term) :
  PaM T w0 pb tl params pl e bv (bl.set (bl.length-1) b') (w1.setCell ⟨bb,(bl.length-1)*6+u,none⟩ v):=by
 subst hg;refine h.updG hb rfl t ((Turn.refl (fun q=>q=bb) w1).setCell (p:=⟨bb,(bl.length-1)*6+u,none⟩) rfl v) (fun hd=>?_) hp hi np ni he hf ha;have h9:=XG hd ((bl.length-1)*6+u) v;rw[WR fbcells 6 Zs bl (bl.length-1) u b b' v hb hu hc]at h9;unfold OwnRow;rw[List.length_set];exact h9
theorem BkLast.stay {S S' R:Nat→Prop} {b : FBlk} (h:BkLast S w b) (t:Turn R w w') (hR:∀ q,R q→S q) (hS:∀ q,S' q→S q∨w.heap.size≤q) (h1:∀ q,b.phv.ownBlock=some q→¬ R q∧¬ S' q) (h2:∀ q,b.inv.ownBlock=some q→¬ R q∧¬ S' q):VS S' w' b:=by
 have k1:=Zi h.phis t fun q hq=>(h1 q hq).1
 have k2:=Zi h.ins t fun q hq=>(h2 q hq).1
 exact⟨Yf YR k1 fun p hp=>(h.phi p hp).turn t hR hS,fun q hq=>⟨(h1 q hq).2,(World.ownsRow.lt k1 q hq).2⟩,Yf Xk k2 fun x hx=>(h.inx x hx).turn t hR hS,fun q hq=>⟨(h2 q hq).2,(World.ownsRow.lt k2 q hq).2⟩,h.term.turn t hR hS⟩
def Yg:FBlk:=⟨[],.slice none 0 0,[],.slice none 0 0,⟨0,[],.slice none 0 0,[],.slice none 0 0,0⟩⟩
theorem PaM.addBlock (h:PaM T w0 pb tl params pl e bv bl w) {bv':Value} {w1:World} (he:OwnRow fbcells 6 57 0 w1 bv' (bl++[Yg])) (t:Turn (fun q=>bv.ownBlock=some q) w w1) (hn:ZP w bv bv') :
  PaM T w0 pb tl params pl e bv' (bl++[Yg]) (w1.setCell ⟨pb,1,none⟩ bv'):=by
 have hd:=h.box.turn t fun hq=>Zk h.row h.box (Ne.symm h.kind.1) hq
 have t2:Turn (fun q=>q=pb) w1 (w1.setCell ⟨pb,1,none⟩ bv'):=(Turn.refl (fun q=>q=pb) w1).setCell (p:=⟨pb,1,none⟩) rfl bv';have t3:Turn (fun q=>bv.ownBlock=some q∨q=pb) w (w1.setCell ⟨pb,1,none⟩ bv'):=(t.mono fun _ _ h=>.inl h).trans (t2.mono fun _ _ h=>.inr h);have ho:∀ q,(bv.ownBlock=some q∨q=pb)→PaOwn pb bv bl q:=fun q hq=>by
  rcases hq with hq|rfl
  ·exact .inr (.inl hq)
  ·exact .inl rfl
 have hl:(bl++[Yg]).length=bl.length+1:=by simp
 have hg:(bl++[Yg])[(bl++[Yg]).length-1]? = some Yg:=by simp
 have hS:∀ q,PaOwn pb bv' (bl++[Yg]) q→PaOwn pb bv bl q∨w.heap.size≤q:=by
  rintro q (rfl|hq|⟨c,ha,hq⟩)
  ·exact .inl (.inl rfl)
  ·rcases hn q hq with h1|h1
   ·exact .inl (.inr (.inl h1))
   ·exact .inr h1
  ·rw[hg]at ha;obtain rfl:=Option.some.inj ha;rcases hq with hq|hq<;>cases hq
 have hb:∀ (f:Value) (U:TypeId) (sz n:Nat) (xs:List Value),w.ownsRow 0 U sz f n xs→U≠57→U≠T→∀ q,f.ownBlock=some q→¬ (bv.ownBlock=some q∨q=pb)∧¬ PaOwn pb bv' (bl++[Yg]) q:=by
  intro f U sz n xs hf hu ht q hq;have a1:¬ (bv.ownBlock=some q∨q=pb):=by
   rintro (hr|rfl)
   ·exact Z9 hf h.row hu q hq hr
   ·exact Zk hf h.box ht hq
  refine⟨a1,?_⟩;rintro (rfl|hr|⟨c,ha,hr⟩)
  ·exact a1 (.inr rfl)
  ·rcases hn q hr with h1|h1
   ·exact a1 (.inl h1)
   ·have:=(World.ownsRow.lt hf q hq).2;omega
  ·rw[hg]at ha;obtain rfl:=Option.some.inj ha;rcases hr with hr|hr<;>cases hr
 have hk:∀ q,PaS w0 pb bv' (bl++[Yg]) q→PaS w0 pb bv bl q∨w.heap.size≤q:=fun q hq=>by
  rcases hq with hq|hq
  ·rcases hS q hq with h1|h1
   ·exact .inl (.inl h1)
   ·exact .inr h1
  ·exact .inl (.inr hq)
 have hm:∀ q,(bv.ownBlock=some q∨q=pb)→PaS w0 pb bv bl q:=fun q hq=>.inl (ho q hq)
 have hh:∀ {q : Nat} {x : Prop},x∧¬ PaOwn pb bv' (bl++[Yg]) q→PaOwn pb bv bl q→x∧¬ PaS w0 pb bv' (bl++[Yg]) q:=fun h1 h2=>⟨h1.1,fun h3=>by
  rcases h3 with h3|h3
  ·exact h1.2 h3
  ·have:=h.new _ h2;omega⟩
 have hj:=hd.set 1 bv';rw[List.setIfInBounds_toArray]at hj;refine⟨hj,Zi he t2 fun q hq hr=>by subst hr;exact Zk he hd (Ne.symm h.kind.1) hq,fun i c ha hi=>?_,fun c ha=>?_,t3.toSince h.old fun q hq hr=>?_,fun q hq=>?_,h.kind⟩
 ·rw[hl]at hi;rw[List.getElem?_append_left (by omega)]at ha;by_cases hs:i+1<bl.length
  ·exact (h.early i c ha hs).turn t3 hm hk
  ·obtain rfl:i=bl.length-1:=by omega
   have hc:=h.last c ha;exact hc.stay t3 hm hk (fun q hq=>hh (hb _ _ _ _ _ hc.phis (by decide) (Ne.symm h.kind.2.1) q hq) (.inr (.inr ⟨c,ha,.inl hq⟩))) (fun q hq=>hh (hb _ _ _ _ _ hc.ins (by decide) (Ne.symm h.kind.2.2) q hq) (.inr (.inr ⟨c,ha,.inr hq⟩)))
 ·rw[hg]at ha;obtain rfl:=Option.some.inj ha;exact⟨OwnRow.nil _ _ _ _ _,fun p hp=>(by cases hp),OwnRow.nil _ _ _ _ _,fun x hx=>(by cases hx),⟨⟨.nil _ _,.nil _ _⟩,Stays.nil _ _,Stays.nil _ _⟩⟩
 ·have:=h.new q (ho q hr);omega
 ·rcases hS q hq with h1|h1
  ·exact h.new q h1
  ·have:=h.old.size;omega
end
structure ZhB (p:ZC):Prop where
 dst:ZO p.dst
 ins:∀ y∈p.ins,ZO y.1∧ZO y.2
structure ZfF (t:Zt):Prop where
 kd:ZO t.kind
 ar:∀ y∈t.args,ZO y
 tg:∀ y∈t.to,ZO y
 im:In32W t.imm
structure ZhI (b:FBlk):Prop where
 phis:∀ p∈b.phis,ZhB p
 ins:∀ i∈b.ins,ZdJ i
 term:ZfF b.term
structure FnR (f:FnV):Prop where
 params:ZO f.params
 blocks:∀ b∈f.blocks,ZhI b
def QT (cs:Array Value) (T:TypeId) (n:Nat) (v:Value) (w:World):Prop:=∃ g,v=.slice (some ⟨g,0,none⟩) n n∧HeapIs w g cs T
theorem QT.stable (cs:Array Value) (T:TypeId) (n:Nat):Z7 (QT cs T n):=fun _ _ _ h hs=>by
 obtain⟨g,h1,h2⟩:=h
 exact⟨g,h1,h2.keep hs⟩
theorem Vr {α:Type} {P : Program} {w0 w:World} {ops:Array Oper} {rest:List Oper} {o : Oper} {a : Act} {Q : Exit→Act→World→Prop} (f:α→List Value) (hk:∀ x,(f x).length=1) (hC:∀ x,∀ u∈f x,u.oneCell'=true) (hh:o.guard=none) (s x:Operand) (t:TypeId)
  (ho:o.op=.call { callee:=.builtin .append,args:=#[s,x],argTypes:=#[t,t] })
  (e:TypeId) (z:Value) (bytes:Nat) (ht:P.underlying t=some (.slice e)) (hl:(P.info? e).map (fun i=>(i.zero,i.size,i.bytes))=some (some z,1,bytes)) (hz:z.cells.size=1) (hB:bytes≤16)
  (v xv:Value) (l1 l2:List α) (hs:a.eval s=v) (hx:a.eval x=xv) (hd:OwnRow f 1 e w0.heap.size w v l1) {p : World→α→Prop} (hD:RowIn f 1 p w xv l2)
  (hf:l1.length+l2.length≤1000000) (ha:Since w0 w)
  (h:∀ v' w',OwnRow f 1 e w0.heap.size w' v' (l1++l2)→Since w0 w'→wpList P ops Q rest (a.put o.dst v') w'):wpList P ops Q (o::rest) a w:=by
 obtain⟨i,hi,hq,hp,hn⟩:=info_parts hl;have hA:∀ (w':World),w.grownBy w' v.ownBlock→Since w0 w':=by
  intro w' hc;refine Below.grown ha hc ha.size ?_;intro r hr;obtain⟨_,⟨hv,_⟩|⟨g,cap,cur,hv,hg,_⟩⟩:=hd
  ·subst hv;cases hr
  ·subst hv;cases hr;exact hg
 unfold OwnRow at hd;rcases hD with ⟨ad,hv,rfl⟩|⟨b,off,cap,hv,hE,_,hb,hm⟩
 ·subst hv
  cases ad with
  | none =>
   refine wpList_append_own_none hh s x t ho w0.heap.size e i 1 ht hi v _ _ hs hd hx (h v w ?_ ha);unfold OwnRow;simpa using hd
  | some ad =>
   refine wpList_append_own _ hh s x t ho w0.heap.size e i z 1 bytes ht hi hq hp hn hz (by decide) v _ _ hs hd ad 0 0 [] hx rfl (fun j u hu=>by cases hu) (fun u hu=>by cases hu) (by unfold maxLen;simp at hf;omega) ?_ ha.size ?_
   ·have:(l1.length+0)*bytes≤1000000*16:=Nat.mul_le_mul (by simpa using hf) hB;omega
   ·intro v' w' he hc _;exact h v' w' (by unfold OwnRow;simpa using he) (hA w' hc)
 ·subst hv;refine wpList_append_own _ hh s x t ho w0.heap.size e i z 1 bytes ht hi hq hp hn hz (by decide) v _ _ hs hd ⟨b,off,none⟩ l2.length cap (l2.flatMap f) hx (by rw[Yy f 1 hk]) ?_ ?_ (by unfold maxLen;omega) ?_ ha.size ?_
  ·intro j u hu;have hj:j<l2.length:=by have:=(List.getElem?_eq_some_iff.1 hu).1;rw[Yy f 1 hk]at this;omega
   obtain⟨y,hy⟩:∃ y,l2[j]? = some y:=⟨_,List.getElem?_eq_getElem hj⟩
   have h2:=(hm j y hy).1 0 (by decide);rw[Nat.mul_one,Nat.add_zero]at h2;have h3:=YP f 1 hk l2 j 0 y hy (by decide);rw[Nat.mul_one,Nat.add_zero,hu]at h3;rw[←h3]at h2;unfold Addr.add;split
   ·rename_i h0;subst h0;simpa using h2
   ·exact h2
  ·intro u hu;obtain⟨y,_,hy⟩:=List.mem_flatMap.1 hu;exact hC y u hy
  ·have:(l1.length+l2.length)*bytes≤1000000*16:=Nat.mul_le_mul hf hB;omega
  ·intro v' w' he hc _;exact h v' w' (by unfold OwnRow;simpa using he) (hA w' hc)
theorem Kp (x:It):(itc x).length=1:=by cases x<;>rfl
theorem ZcL (x:It):∀ u∈itc x,u.oneCell'=true:=by cases x<;>(intro u hu;simp[itc]at hu;subst hu;rfl)
theorem ZcK {B b base:Nat} {w : World} {v : Value} {its:List It} (h:OwnRow itc 1 20 base w v its) (he:∀ q,v.ownBlock=some q→q≠b) (hw:∀ x∈its,∀ w',Kept B b w w'→WX w' x) :
  ∀ w',Kept B b w w'→Zbg w' v its:=by
 intro w' hk;obtain⟨h0,⟨rfl,hn⟩|⟨g,cap,cur,hv,hg,hb,hc,hm,hs,ha⟩⟩:=h
 ·exact .inl ⟨none,rfl,List.length_eq_zero_iff.1 hn⟩
 ·subst hv;have hd:=hk.heap hb (he g rfl) (by decide);refine .inr ⟨g,0,cap,rfl,hc,hm,(Array.getElem?_eq_some_iff.1 hd).1,fun j x hx=>⟨fun t ht=>?_,hw x (List.mem_of_getElem? hx) w' hk⟩⟩
  obtain rfl:t=0:=by omega
  have h3:=YP itc 1 Kp its j 0 x hx (by decide);have hj:j<its.length:=(List.getElem?_eq_some_iff.1 hx).1;rw[←h3,←ha];simp only[World.cell?,hd,Nat.mul_one,Nat.add_zero,Nat.zero_add];rw[List.getElem?_take_of_lt (by omega)];simp
theorem V3 {l : List Y1} {k : Nat} {x : Y1} (h:l[k]? = some x):blksS l (k+1)=blksS l k++V6 k x:=by
 unfold blksS;rw[List.range_succ,List.flatMap_append];simp[ZdB,h]
theorem Zao (l:List Y1):∀ (n k:Nat),k≤n→(blksS l k).length≤(blksS l n).length
 | 0,k,h=>by rw[show k=0 from by omega];exact Nat.le_refl _
 | n+1,k,h=>by
  by_cases hk:k=n+1
  ·rw[hk];exact Nat.le_refl _
  ·have h1:=Zao l n k (by omega)
   have h2:blksS l (n+1)=blksS l n++ZdB l n:=by unfold blksS;rw[List.range_succ,List.flatMap_append];simp
   rw[h2,List.length_append];omega
theorem Zgz (k:Nat) (x:Y1):(V6 k x).length=6+(dS k).length+((x.phis.flatMap fun p=>Jr p++[10]).length+((x.ins.flatMap fun i=>ZM i++[10]).length+((Yi x.term).length+1))):=by
 unfold V6 QL;simp only[List.length_append,List.length_cons,List.length_nil];omega
theorem ZgY (w:World) (o:Obj):Bu w.heap.size (w.heap.size+1) [] ((w.alloc o).alloc (.cells #[.pointer none,.slice none 0 0] 67)):=by
 refine .inl ⟨by omega,.slice none 0 0,?_,⟨rfl,.inl ⟨rfl,rfl⟩⟩,by simp[Value.ownBlock]⟩
 have h:=Z2 (w.alloc o) (.cells #[.pointer none,.slice none 0 0] 67);rw[show (w.alloc o).heap.size=w.heap.size+1 from by simp]at h;exact h
theorem XH {α:Type} (f:α→List Value) (sz:Nat) (e:TypeId) (w:World) (l:List α) (n:Nat) (hf:∀ x,(f x).length=sz) (hn:n=l.length) (hm:n≤1000) (cs:Array Value) (ha:cs=(l.flatMap f).toArray):OwnRow f sz e w.heap.size (w.alloc (.cells cs e)) (.slice (some ⟨w.heap.size,0,none⟩) n n) l:=by
 subst hn;subst ha;have h:=Yy f sz hf l;refine⟨h,.inr ⟨w.heap.size,l.length,_,rfl,Nat.le_refl _,Z2 _ _,Nat.le_refl _,by unfold maxLen;omega,by rw[List.size_toArray];exact h,?_⟩⟩;rw[←h];exact List.take_length
def stc (b:ByteArray):List Value:=[.string b]
theorem X1 (b:ByteArray):(stc b).length=1:=rfl
abbrev StrsIn (w:World) (v:Value) (l:List ByteArray):Prop:=RowIn stc 1 (fun _ b=>b.size≤1000000) w v l
theorem StrsIn.keep {w w':World} {v : Value} {l : List ByteArray} (h:StrsIn w v l) (s:Since w w'):StrsIn w' v l:=RowIn.keep (fun _ _ _ h _=>h) h s
theorem StrsIn.at {w : World} {a : Option Addr} {n c:Nat} {l : List ByteArray} (h:StrsIn w (.slice a n c) l) {k : Nat} (hk:k<l.length):∃ b off x,a=some ⟨b,off,none⟩∧b<w.heap.size∧l[k]? = some x∧w.cell? ⟨b,off+k,none⟩=some (.string x)∧x.size≤1000000:=by
 obtain⟨b,off,x,h1,h2,h3,h4,h5⟩:=RowIn.at h hk;have:=h4 0 (by decide);rw[Nat.mul_one,Nat.add_zero]at this;exact⟨b,off,x,h1,h2,h3,this,h5⟩
def Yj (e:Int) (b:Bool) (n:Int):Int:=if b=true∧e=0 then n else e
abbrev RPa (w0:World) (pb:Nat) (params pl e:Int) (bv:Value) (bl:List FBlk) (w:World):Prop:=PaM 119 w0 pb [] params pl e bv bl w
def Zhr (w0:World) (pb:Nat) (params pl e:Int) (bv:Value) (bl:List FBlk) (w:World) (x:Ending) (w':World):Prop:=x=.returned (.tuple #[])∧RPa w0 pb params pl e bv bl w'∧Turn (fun q=>q=pb) w w'
section
variable {w0:World} {pb:Nat} {params pl e:Int} {bv:Value} {bl:List FBlk}
theorem ZL (w:World) (h:RPa w0 pb params pl e bv bl w) (b:Bool) (n:Int):Calls Tryz.prog 89 #[.pointer (some ⟨pb,0,none⟩),.bool b,.int .i64 n] w (Zhr w0 pb params pl (Yj e b n) bv bl w):=by
 have c3:w.cell? ⟨pb,3,none⟩=some (.int .i64 e):=h.cell 3;have hl:=h.box.lt;have hz:=h.box.frozen 3;have H:=hid h;clear h
 cases b with
 | false =>
  go_enter Tryz.func89,Tryz.ntmps89
  go_wp2
  go_end0
  exact⟨rfl,by unfold Yj;rw[if_neg (by simp)];exact H.out,Turn.refl _ _⟩
 | true =>
  by_cases he:e=0
  ·subst he;have HP:=hid (H.out.put 3 (.int .i64 n) (params':=params) (pl':=pl) (e':=n) (tl':=[]) rfl);go_enter Tryz.func89,Tryz.ntmps89
   go_wp2
   go_end0
   exact⟨rfl,by unfold Yj;rw[if_pos ⟨rfl,rfl⟩];exact HP.out,(Turn.refl (fun q=>q=pb) w).setCell (p:=⟨pb,3,none⟩) rfl _⟩
  ·have h1:(e==0)=false:=by simpa using he
   have HE:=hid he;clear he;go_enter Tryz.func89,Tryz.ntmps89
   go_wp2
   go_end0
   exact⟨rfl,by unfold Yj;rw[if_neg (fun h=>HE.out h.2)];exact H.out,Turn.refl _ _⟩
end
def numsE (e:Int) (l:List ByteArray):Int:=if e=0∧ZZ l=false then 71 else e
theorem QA (e:Int) {l : List ByteArray} {k : Nat} {x : ByteArray} (h:l[k]? = some x):Yj (numsE e (l.take k)) (!Ya x) 71=numsE e (l.take (k+1)):=by
 have ht:l.take (k+1)=l.take k++[x]:=by rw[List.take_add_one,h];rfl
 unfold numsE Yj ZZ;rw[ht,List.all_append]
 cases h1:(l.take k).all Ya<;>cases h2:Ya x<;>by_cases he:e=0<;>simp[h2,he]
theorem ZaP (e:Int):numsE e []=e:=by unfold numsE ZZ;simp
theorem Qz {l : List ByteArray} {k : Nat} {x : ByteArray} (h:l[k]? = some x):numsW (l.take (k+1))=numsW (l.take k)++[ZS x]:=by
 unfold numsW;rw[List.take_add_one,h];simp
theorem YH (x:ByteArray):In32W (ZS x):=by
 unfold ZS
 cases h:Z0 x.data.toList with
 | none=>exact⟨by decide,by decide⟩
 | some v=>exact JR h
def Zg5 (w0:World) (pb:Nat) (params pl e:Int) (bv:Value) (bl:List FBlk) (l:List ByteArray) (w:World) (x:Ending) (w':World):Prop:=
 ∃ rv,x=.returned rv∧w'.ownsRow w.heap.size 3 1 rv (numsW l).length ((numsW l).map (Value.int .i64))∧RPa w0 pb params pl (numsE e l) bv bl w'∧Turn (fun q=>q=pb) w w'
theorem Tryz.infoInt:(Tryz.prog.info? 3).map (fun i=>(i.zero,i.size,i.bytes))=some (some (.int .i64 0),1,8):=by kernel_rfl
section
variable {w0:World} {pb:Nat} {params pl e:Int} {bv:Value} {bl:List FBlk}
theorem XF (w:World) (h:RPa w0 pb params pl e bv bl w) (v:Value) (l:List ByteArray) (hl:StrsIn w v l) (hs:Stays (fun q=>q=pb) w v) (hn:l.length≤500000):Calls Tryz.prog 90 #[.pointer (some ⟨pb,0,none⟩),v] w (Zg5 w0 pb params pl e bv bl l w):=by
 obtain⟨a,c,e1,_⟩:=RowIn.shape hl;obtain rfl:v=.slice a l.length c:=e1;have H:=hid h;have HL:=hid (fun w' (t:Turn (fun q=>q=pb) w w')=>(RowIn.turn hl t (fun q hq hr=>(hs q hq).1 hr) (fun _ _ h=>h):StrsIn w' _ l))
 clear h hl hs;go_enter Tryz.func90,Tryz.ntmps90
 go_wp2_with fail
 go_loopw [5,6] (fun oo io wr=>∃ (k:Nat) (out:Value),out=oo∧io=.int .i64 k∧k≤l.length∧wr.ownsRow w.heap.size 3 1 out (numsW (l.take k)).length ((numsW (l.take k)).map (Value.int .i64))∧RPa w0 pb params pl (numsE e (l.take k)) bv bl wr∧Turn (fun q=>q=pb) w wr) (fun _ io _=>l.length-(intOf io).toNat)
 case atStart =>
  refine⟨0,_,rfl,rfl,Nat.zero_le _,?_,?_,(Turn.refl _ _).alloc _⟩
  ·exact XH (fun x:Int=>[Value.int .i64 x]) 1 3 w [] 0 (fun _=>rfl) rfl (by decide) _ rfl
  ·rw[List.take_zero,ZaP];exact H.out.keep ((Since.refl _).alloc _)
 case round =>
  obtain⟨k,out,rfl,rfl,hk,ho,hp,ht⟩:=hrel;by_cases hP:k<l.length
  ·obtain⟨b,off,x,rfl,hb,hx,hc,hz⟩:=StrsIn.at (HL.out wr ht) hP;obtain⟨nv,he⟩:∃ n,ZS x=n:=⟨_,rfl⟩
   obtain⟨ok,hm⟩:∃ b,Ya x=b:=⟨_,rfl⟩
   have ha:Calls Tryz.prog 56 #[.string x] wr fun e w'=>e=.returned (.tuple #[.int .i32 (ZS x),.bool (Ya x)])∧Since wr w':=Qr x wr hz
   rw[he,hm]at ha;have hO:=(YH x).1;have hN:=(YH x).2;rw[he]at hO hN;have hv:=QA e hx;rw[hm]at hv;have hu:=Qz hx;rw[he]at hu;have hU:=hid hv;have hS:=hid hu;have hy:=hid ha;have HP:=hid hp;have HO:=hid ho;have HT:=hid ht;have hh:=H.out.box.lt;have hH:=hid hh;clear hv hu ha hp ho ht hh he hm hx hz;go_wp2_with fail
   refine hy.out.mono ?_;rintro e2 w2 ⟨rfl,hg⟩;have hI:=hid (HP.out.keep hg);have hG:=hid hg;clear hg hc hb;go_wp2_with fail
   refine (ZL w2 hI.out (!ok) 71).mono ?_;rintro e3 w3 ⟨rfl,hi,hf⟩;rw[hU.out]at hi;have hC:=Zi (ZE HO.out hG.out) hf fun q hq hr=>by have:=(World.ownsRow.lt HO.out q hq).1;have:=hH.out;omega
   have hW:=hid (hi.box.keep ((Since.refl w3).alloc (.cells #[.int .i64 nv] 3)));have hK:=hid (ZE hC ((Since.refl w3).alloc (.cells #[.int .i64 nv] 3)));have hF:=hid ((HT.out.later (Turn.since (S:=fun q=>q=pb) hG.out) (fun _ h=>.inl h)).trans hf |>.alloc (.cells #[.int .i64 nv] 3));have hT:=hid (XT (k:=.i64) (w:=w3.alloc (.cells #[.int .i64 nv] 3)) (b:=w3.heap.size) [nv] 3 1 (by simp) (by decide) (cs:=[.int .i64 nv]) (Z2 w3 _) (fun j n hj=>by match j,hj with | 0,hj=>simp at hj;subst hj;rfl));have hQ:=zH (w.heap.size≤(w3.alloc (.cells #[.int .i64 nv] 3)).heap.size) hF.out.size;have hL:=zH ((numsW (l.take k)).length + [nv].length≤1000000) (by unfold numsW;simp only[List.length_map,List.length_take,List.length_cons,List.length_nil];omega);clear hi hf hC HP hI HO hy;go_wp2_with (at_builtin;refine Zl .i64 rfl _ _ 32 rfl 3 (.int .i64 0) 8 Tryz.underlying32 Tryz.infoInt rfl (by decide) _ _ (numsW (l.take k)) [nv] rfl rfl hK.out hT.out hL.out hQ.out ?_;intro v2 w4 hB hA hM;have hJ:=hid hB;have hE:=hid hA;clear hB hA hM)
   have hd:∀ q,out.ownBlock=some q→w.heap.size≤q:=fun q hq=>(World.ownsRow.lt hK.out q hq).1
   have hV:=hid (hW.out.turn hE.out fun hq=>by have:=hd pb hq;have:=hH.out;omega);have hD:=hid (hF.out.later hE.out fun q hq=>.inr (hd q hq))
   have hR:=hid (H.out.reBox hD.out hV.out);rw[←hS.out]at hJ;clear hd
   go_roundw
   case rel=>exact⟨k+1,_,rfl,by go_num,by omega,hJ.out,hR.out,hD.out⟩
   case measure=>simp[intOf];omega
  ·obtain rfl:l.length=k:=by omega
   rw[List.take_length]at ho hp;have HP:=hid hp;have HO:=hid ho;have HT:=hid ht;clear hp ho ht;go_wp2
   go_ret
   exact⟨_,rfl,HO.out,HP.out,HT.out⟩
end
theorem ZcR {α:Type} (f:α→Bs) (k:Nat):∀ (l:List α),(∀ x∈l,(f x).length≤k)→(l.flatMap f).length≤k*l.length
 | [],_=>by simp
 | x::r,h=>by
  rw[List.flatMap_cons,List.length_append,List.length_cons,Nat.mul_succ]
  have h1:=h x (List.mem_cons_self ..)
  have h2:=ZcR f k r fun y hy=>h y (List.mem_cons_of_mem _ hy)
  omega
theorem VM {α:Type} (f:α→Bs) (k n:Nat) (l:List α) (h:∀ x∈l,(f x).length≤k) (hn:l.length≤n):(l.flatMap f).length≤k*n:=
 Nat.le_trans (ZcR f k l h) (Nat.mul_le_mul_left k hn)
theorem Zff:∀ i,i<18→(ZQ.getD i ByteArray.empty).data.toList.length≤6:=by decide
theorem ZgN (op:Int):(opS op).length≤6:=by
 unfold opS Xo;split
 ·decide
 ·exact Zff _ (by omega)
theorem ZeR:∀ i,i<5→(ZY.getD i ByteArray.empty).data.toList.length≤6:=by decide
theorem ZeT (k:Int):(X0 k).data.toList.length≤6:=by
 unfold X0;split
 ·decide
 ·exact ZeR _ (by omega)
theorem Zf4:∀ i,i<37→(ZT.getD i ByteArray.empty).data.toList.length≤6:=by decide
theorem Zf6 (p:Int):(KY p).length≤6:=by
 unfold KY Xx;split
 ·decide
 ·exact Zf4 _ (by omega)
theorem ZeQ (t:ZH) (h:ZO t.cost):(WZ t).length≤34:=by
 have h1:=Zf6 t.pat;have h2:=Ve t.cost h;unfold WZ;simp only[List.length_append,List.length_cons,List.length_nil];omega
theorem ZdR (l:List ZH) (n:Nat) (h:∀ t∈l,ZO t.cost) (hn:l.length≤n):(JS l).length≤34*n:=VM WZ 34 n l (fun t ht=>ZeQ t (h t ht)) hn
end Go.Proofs.YtmhojfpidedjeaaGreatDoor
