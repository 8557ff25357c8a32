import Derived.Test.YtimpddecdodddaaGreatSb49
namespace Go.Proofs.YtimpddecdodddaaGreat
open Go.RowKit
set_option linter.unusedVariables false
def ExR (R:St→St→Prop) (x y:Option Int × St):Prop:=x.1=y.1∧x.2.mem=y.2.mem∧x.2.calls=y.2.calls∧(x.1=none→R x.2 y.2)
section
variable {p q:Z2} {ans:List Int} {R : St→St→Prop} {Q : Mach→Prop}
theorem Zcx (hl:p.blocks.length=q.blocks.length) (hn:∀ s t,R s t→t.regs=s.regs∧t.mem=s.mem∧t.calls=s.calls)
  (ho:∀ (t:Nat) (a b:ZD),p.blocks[t]? = some a→q.blocks[t]? = some b→Wi a.fin b.fin=true)
  (hp:∀ (t:Nat) (a b:ZD),p.blocks[t]? = some a→q.blocks[t]? = some b→∀ s s',R s s'→ExR R (ZX ans (a.ins.map fun x=>x.m) s) (ZX ans (b.ins.map fun x=>x.m) s')) :
  ∀ (f:Nat) (s s':St) (t:Nat) (a b:ZD),R s s'→p.blocks[t]? = some a→q.blocks[t]? = some b→(ZA p ans f s a a.ins).e≠3 →
  ∃ g,(ZA q ans g s' b b.ins).e≠3∧ZfC (ZA p ans f s a a.ins) (ZA q ans g s' b b.ins):=by
 intro f;induction f using Nat.strongRecOn with
 | ind f ih =>
  intro s s' t a b hs ha hb he;have hk:=hp t a b ha hb s s' hs;have hf:=Qe (p:=p) (ans:=ans) a.ins f s a he
  cases e1:ZX ans (a.ins.map fun x=>x.m) s with
  | mk o1 s1 =>
   cases e2:ZX ans (b.ins.map fun x=>x.m) s' with
   | mk o2 s2 =>
    rw[e1,e2]at hk;rw[e1]at hf;obtain⟨g1,g2,g3,g4⟩:=hk;dsimp only at g1 g2 g3 g4;subst g1
    cases o1 with
    | some tr =>
     obtain⟨k1,k2,k3⟩:=hf;obtain⟨g,j1,j2,j3⟩:=Kg (p:=q) b.ins s' b e2;exact⟨g,by rw[j1];decide,by rw[k1,j1],by rw[k2,j2],by rw[k3,j3];exact g2,by rw[k3,j3];exact g3⟩
    | none =>
     have g5:=g4 rfl;obtain⟨o1,o2,o3⟩:=hn _ _ g5;obtain⟨g,hg,hm⟩:=hf;rw[hm]at he ⊢;obtain⟨f1,f2,f3,f4,f5⟩:=(Xz _ _).1 (ho t a b ha hb)
     cases g with
     | zero=>exact absurd rfl (by unfold ZA at he;exact he)
     | succ g =>
      have hd:=VZ (p:=q) b.ins s' b e2;by_cases h8:a.fin.op=8
      ·refine⟨1+b.ins.length,?_⟩;rw[hd 1];unfold ZA;rw[←f1,if_pos h8,if_pos h8];exact⟨(show (2:Int)≠3 by decide),rfl,f4,o2.symm,o3.symm⟩
      ·by_cases h7:a.fin.op=7
       ·refine⟨1+b.ins.length,?_⟩;rw[hd 1];unfold ZA;rw[←f1,←f2,if_neg h8,if_pos h7,if_neg h8,if_pos h7,o1];exact⟨(show (1:Int)≠3 by decide),rfl,rfl,o2.symm,o3.symm⟩
       ·have hi:goes b.fin s2.regs=goes a.fin s1.regs:=by
         unfold goes;rw[←f1,←f2,←f3,←f5,o1]
        obtain⟨j,hj⟩:∃ j,(a.fin.to.getD (goes a.fin s1.regs) 0).toNat=j:=⟨_,rfl⟩
        unfold ZA at he;rw[if_neg h8,if_neg h7,hj]at he
        cases hc:p.blocks[j]? with
        | none =>
         have hh:q.blocks[j]? = none:=by
          rw[List.getElem?_eq_none_iff]at hc ⊢;omega
         refine⟨1+b.ins.length,?_⟩;rw[hd 1];unfold ZA;rw[hi,←f1,←f5,if_neg h8,if_neg h7,if_neg h8,if_neg h7,hj,hc,hh];exact⟨(show (0:Int)≠3 by decide),rfl,rfl,o2.symm,o3.symm⟩
        | some a' =>
         rw[hc]at he;obtain⟨b',hh⟩:∃ b',q.blocks[j]? = some b':=⟨_,List.getElem?_eq_getElem (by have:=(List.getElem?_eq_some_iff.1 hc).1;omega)⟩
         obtain⟨g',i1,i2⟩:=ih g kT s1 s2 j a' b' g5 hc hh he;refine⟨g'+1+b.ins.length,?_⟩;rw[hd (g'+1)];unfold ZA;rw[hi,←f1,←f5,if_neg h8,if_neg h7,if_neg h8,if_neg h7,hj,hc,hh];exact⟨i1,i2⟩
theorem ZbD {i : InV} (hp:rightB p=true) (hq:rightB q=true) (hl:p.blocks.length=q.blocks.length) (hf:∀ s t,R s t→t.regs=s.regs∧t.mem=s.mem∧t.calls=s.calls)
  (hg:∀ (t:Nat) (a b:ZD),p.blocks[t]? = some a→q.blocks[t]? = some b→Wi a.fin b.fin=true)
  (hh:∀ (t:Nat) (a b:ZD),p.blocks[t]? = some a→q.blocks[t]? = some b→∀ s s',R s s'→ExR R (ZX i.ans (a.ins.map fun x=>x.m) s) (ZX i.ans (b.ins.map fun x=>x.m) s'))
  (hi:R (st0 p i) (st0 q i)) (h1:(YW p i).e≠3) (h2:(YW q i).e≠3):KC (YW p i) (YW q i):=by
 unfold YW at h1 h2 ⊢;rw[if_pos hp]at h1 ⊢;rw[if_pos hq]at h2 ⊢
 cases he:p.blocks with
 | nil =>
  cases hc:q.blocks with
  | nil=>exact⟨rfl,rfl,rfl,rfl⟩
  | cons b r=>rw[he,hc]at hl;simp at hl
 | cons a r =>
  cases hc:q.blocks with
  | nil=>rw[he,hc]at hl;simp at hl
  | cons b r2 =>
   rw[he]at h1;rw[hc]at h2;dsimp only at h1 h2 ⊢;have ha:p.blocks[0]? = some a:=by rw[he];rfl
   have hb:q.blocks[0]? = some b:=by rw[hc];rfl
   obtain⟨g,g1,g2⟩:=Zcx hl hf hg hh i.steps.toNat (st0 p i) (st0 q i) 0 a b hi ha hb h1;have hd:=ZbE g1 (show (ZA q i.ans i.steps.toNat (st0 q i) b b.ins).e≠3 from h2)
   obtain⟨k1,k2,k3,k4⟩:=g2;unfold ZaY;exact⟨k1.trans hd.1,k2.trans hd.2.1,by dsimp only;rw[k3,hd.2.2],by dsimp only;rw[k4,hd.2.2]⟩
theorem Vm (hb:∀ m,Q m→∀ s t,R s t→ExR R (stepM m ans s) (stepM m ans t)) (ha:∀ s t,R s t→t.regs=s.regs∧t.mem=s.mem∧t.calls=s.calls):∀ (l:List Mach),(∀ m∈l,Q m)→∀ s t,R s t→ExR R (ZX ans l s) (ZX ans l t)
 | [],_,s,t,h=>⟨rfl,(ha s t h).2.1.symm,(ha s t h).2.2.symm,fun _=>h⟩
 | m::l,hm,s,t,h=>by
  have h1:=hb m (hm m List.mem_cons_self) s t h
  unfold ZX
  cases e1:stepM m ans s with
  | mk o1 s1 =>
   cases e2:stepM m ans t with
   | mk o2 t1 =>
    rw[e1,e2]at h1
    obtain⟨g1,g2,g3,g4⟩:=h1
    dsimp only at g1 g2 g3 g4
    subst g1
    cases o1 with
    | some tr=>exact⟨rfl,g2,g3,fun h=>by cases h⟩
    | none=>exact Vm hb ha l (fun x hx=>hm x (List.mem_cons_of_mem _ hx)) s1 t1 (g4 rfl)
theorem Zc1 (ha:∀ m,Q m→∀ s t,R s t→ExR R (stepM m ans s) (stepM m ans t)) (hb:∀ s t,R s t→t.regs=s.regs∧t.mem=s.mem∧t.calls=s.calls) {u v m1 m2:List Mach} (hu:∀ m∈u,Q m) (hv:∀ m∈v,Q m)
  (hc:∀ s t,R s t→∃ s' t',ZX ans m1 s=(none,s')∧ZX ans m2 t=(none,t')∧R s' t') (s t:St) (h:R s t):ExR R (ZX ans (u++(m1++v)) s) (ZX ans (u++(m2++v)) t):=by
 have h1:=Vm ha hb u hu s t h;rw[VR,VR]
 cases e1:ZX ans u s with
 | mk o1 s1 =>
  cases e2:ZX ans u t with
  | mk o2 t1 =>
   rw[e1,e2]at h1;obtain⟨g1,g2,g3,g4⟩:=h1;dsimp only at g1 g2 g3 g4;subst g1
   cases o1 with
   | some tr=>exact⟨rfl,g2,g3,fun h=>by cases h⟩
   | none =>
    obtain⟨s2,t2,a1,a2,a3⟩:=hc s1 t1 (g4 rfl);dsimp only;rw[VR,VR,a1,a2];exact Vm ha hb v hv s2 t2 a3
end
structure JD (S:Nat) (s t:St):Prop where
 wf:WfS S s
 regs:t.regs=s.regs
 mem:t.mem=s.mem
 calls:t.calls=s.calls
 slots:∃ z,t.slots=s.slots++[z]
def JC (S:Nat) (s t:St):Prop:=WfS S s∧t=s
theorem PGood.pv {S : Int} {m : Mach} (h:PGood S m) (hS:0≤S):PV S.toNat m:=PV.of (h.ins (k:=16) kS (Int.le_refl _)) kS hS
theorem ZaM {S : Nat} {ans:List Int} (m:Mach) (h:PV S m) (s t:St) (hs:JC S s t):ExR (JC S) (stepM m ans s) (stepM m ans t):=by
 obtain⟨h1,rfl⟩:=hs;exact⟨rfl,rfl,rfl,fun _=>⟨Zaw h h1,rfl⟩⟩
theorem Za1 {S : Nat} {ans:List Int} (m:Mach) (h:PV S m) (s t:St) (hs:JD S s t):ExR (JD S) (stepM m ans s) (stepM m ans t):=by
 have ha:=Zaw (ans:=ans) h hs.wf;obtain⟨h1,h2,h3,h4,z,h5⟩:=hs;obtain⟨tr,ts,tm,tc⟩:=t;dsimp only at h2 h3 h4 h5;subst h2 h3 h4 h5;unfold stepM at ha ⊢;by_cases o1:m.op=30
 ·rw[if_pos o1]at ha;rw[if_pos o1,if_pos o1];have h6:=h.slot (by unfold Y2;rw[o1];rfl);have h7:(s.slots++[z]).getD m.imm.toNat 0=s.slots.getD m.imm.toNat 0:=by
   rw[List.getD_eq_getElem?_getD,List.getD_eq_getElem?_getD,List.getElem?_append_left (by rw[h1.slots];omega)]
  exact⟨rfl,rfl,rfl,fun _=>⟨ha,by dsimp only;rw[h7],rfl,rfl,z,rfl⟩⟩
 ·rw[if_neg o1]at ha;rw[if_neg o1,if_neg o1];by_cases o2:m.op=31
  ·rw[if_pos o2]at ha;rw[if_pos o2,if_pos o2];have h6:=h.slot (by unfold Y2;rw[o2];rfl);exact⟨rfl,rfl,rfl,fun _=>⟨ha,rfl,rfl,rfl,z,by dsimp only;rw[List.set_append_left _ _ (by rw[h1.slots];omega)]⟩⟩
  ·rw[if_neg o2]at ha;rw[if_neg o2,if_neg o2];by_cases o3:m.op=28
   ·rw[if_pos o3]at ha;rw[if_pos o3,if_pos o3];exact⟨rfl,rfl,rfl,fun _=>⟨ha,rfl,rfl,rfl,z,rfl⟩⟩
   ·rw[if_neg o3]at ha;rw[if_neg o3,if_neg o3];exact⟨rfl,rfl,rfl,fun _=>⟨ha,rfl,rfl,rfl,z,rfl⟩⟩
theorem ZbV {S : Nat} (s t:St) (h:JD S s t):t.regs=s.regs∧t.mem=s.mem∧t.calls=s.calls:=⟨h.regs,h.mem,h.calls⟩
theorem ZbC {S : Nat} (s t:St) (h:JC S s t):t.regs=s.regs∧t.mem=s.mem∧t.calls=s.calls:=by rw[h.2];exact⟨rfl,rfl,rfl⟩
def VK (c d:Int):Mach:={ op:=2,d:=0,e:=0,a:=c,b:=d,c:=0,imm:=0,args:=[] }
def Zed (c s:Int):Mach:={ op:=31,d:=0,e:=0,a:=c,b:=0,c:=0,imm:=s,args:=[] }
def ZcI (c d:Int):Mach:={ op:=1,d:=c,e:=0,a:=d,b:=0,c:=0,imm:=0,args:=[] }
def Zee (d s:Int):Mach:={ op:=30,d:=d,e:=0,a:=0,b:=0,c:=0,imm:=s,args:=[] }
theorem X4 (r:List Int) (i v:Int):(setR r i v).length=r.length:=by unfold setR;split<;>simp
theorem Vx {r : List Int} {i : Int} (hr:r.length=16) (hi:0≤i∧i<4):getR r i=r.getD i.toNat 0:=by unfold getR;rw[if_pos ⟨hi.1,by rw[hr];omega⟩]
theorem Vv {r : List Int} {i : Int} (v:Int) (hr:r.length=16) (hi:0≤i∧i<4):setR r i v=r.set i.toNat v:=by unfold setR;rw[if_pos ⟨hi.1,by rw[hr];omega⟩]
theorem ZaJ {r : List Int} {c d:Int} (hr:r.length=16) (hc:0≤c∧c<4) (hd:0≤d∧d<4) :
  setR (setR (setR (setR r c (getR r d)) d (getR r c)) c (getR (setR (setR r c (getR r d)) d (getR r c)) d)) d (getR (setR (setR r c (getR r d)) d (getR r c)) c)=r:=by
 have h1:(setR r c (getR r d)).length=16:=by rw[X4];exact hr
 have h2:(setR (setR r c (getR r d)) d (getR r c)).length=16:=by rw[X4];exact h1
 have h3:(setR (setR (setR r c (getR r d)) d (getR r c)) c (getR (setR (setR r c (getR r d)) d (getR r c)) d)).length=16:=by rw[X4];exact h2
 rw[Vv _ h3 hd,Vv _ h2 hc,Vx h2 hd,Vx h2 hc,Vv _ h1 hd,Vv _ hr hc,Vx hr hc,Vx hr hd];obtain⟨i,hi⟩:∃ i,c.toNat=i:=⟨_,rfl⟩
 obtain⟨j,hj⟩:∃ j,d.toNat=j:=⟨_,rfl⟩
 rw[hi,hj];have hg:i<16:=kT
 have he:j<16:=kT
 apply List.ext_getElem?
 intro n;simp only[List.getD_eq_getElem?_getD,List.getElem?_set,List.length_set,hr];by_cases hn:n<16
 ·have ha:r[n]? = some r[n]:=List.getElem?_eq_getElem kT;have hf:r[i]? = some r[i]:=List.getElem?_eq_getElem kT;have hb:r[j]? = some r[j]:=List.getElem?_eq_getElem kT;by_cases a1:j=n
  ·subst a1;by_cases a2:i=j
   ·subst a2;simp[hn,ha]
   ·have a3:¬ j=i:=fun e=>a2 e.symm
    simp[hn,hg,hb,a3]
  ·by_cases a2:i=n
   ·subst a2;have a3:¬ i=j:=fun e=>a1 e.symm
    simp[hn,he,hf,a1]
   ·simp[a1,a2,ha]
 ·have ha:r[n]? = none:=List.getElem?_eq_none kT;have a1:j≠n:=kT
  have a2:i≠n:=kT
  simp[a1,a2,ha]
theorem Zbr {S : Nat} {ans:List Int} {c d:Int} (hc:0≤c∧c<4) (hd:0≤d∧d<4) (s t:St) (h:JC S s t):∃ s' t',ZX ans [] s=(none,s')∧ZX ans [VK c d,VK c d] t=(none,t')∧JC S s' t':=by
 obtain⟨h1,rfl⟩:=h;refine⟨t,_,rfl,rfl,h1,?_⟩;show ({ regs:=_,slots:=t.slots,mem:=t.mem,calls:=t.calls }:St)=t
 have h2:=ZaJ h1.regs hc hd;obtain⟨tr,ts,tm,tc⟩:=t;dsimp only at h2 ⊢;exact congrArg (fun r=>St.mk r ts tm tc) h2
theorem ZeH {S : Nat} {ans:List Int} {c d:Int} (hc:0≤c∧c<4) (hd:0≤d∧d<4) (s t:St) (h:JD S s t):∃ s' t',ZX ans [VK c d] s=(none,s')∧ZX ans [Zed c S,ZcI c d,Zee d S] t=(none,t')∧JD S s' t':=by
 obtain⟨h1,h2,h3,h4,z,h5⟩:=h;obtain⟨tr,ts,tm,tc⟩:=t;dsimp only at h2 h3 h4 h5;subst h2 h3 h4 h5;refine⟨{ s with regs:=setR (setR s.regs c (getR s.regs d)) d (getR s.regs c) },{ s with regs:=(setR s.regs c (getR s.regs d)).set d.toNat (((s.slots++[z]).set S (s.regs.getD c.toNat 0)).getD S 0),slots:=(s.slots++[z]).set S (s.regs.getD c.toNat 0) },rfl,rfl,?_⟩;have e1:(s.slots++[z]).set S (s.regs.getD c.toNat 0)=s.slots++[s.regs.getD c.toNat 0]:=by
  rw[List.set_append_right _ _ (by rw[h1.slots];exact Nat.le_refl _),h1.slots,Nat.sub_self];rfl
 have e2:(s.slots++[s.regs.getD c.toNat 0]).getD S 0=s.regs.getD c.toNat 0:=by
  rw[List.getD_eq_getElem?_getD,List.getElem?_append_right (by rw[h1.slots];exact Nat.le_refl _),h1.slots,Nat.sub_self];rfl
 refine⟨⟨by dsimp only;rw[X4,X4];exact h1.regs,h1.slots⟩,?_,rfl,rfl,_,e1⟩;dsimp only;rw[e1,e2,Vv _ (show (setR s.regs c (getR s.regs d)).length=16 by rw[X4];exact h1.regs) hd,Vx h1.regs hc]
structure Xx (p q:Z2) (b i:Nat) (mid:List Mach) (S:Int):Prop where
 params:q.params=p.params
 k:q.k=p.k
 slots:q.slots=S
 len:q.blocks.length=p.blocks.length
 each:∀ (t:Nat) (x y:ZD),p.blocks[t]? = some x→q.blocks[t]? = some y→Wi x.fin y.fin=true∧(y.ins.map fun z=>z.m)=if t=b then (x.ins.map fun z=>z.m).take i++(mid++(x.ins.map fun z=>z.m).drop i) else x.ins.map fun z=>z.m
theorem JV:∀ (l l':List Nat) (b k:Nat),l.length=l'.length→(∀ (t a c:Nat),l[t]? = some a→l'[t]? = some c→c≤a+if t=b then k else 0)→l'.sum≤l.sum+k
 | [],[],_,_,_,_=>by simp
 | [],_::_,_,_,h,_=>by simp at h
 | _::_,[],_,_,h,_=>by simp at h
 | x::r,y::r',0,k,h,hc=>by
  have h0:=hc 0 x y rfl rfl
  have h1:=JV r r' 0 0 kL fun t a c ha hb=>by
   have:=hc (t+1) a c ha hb
   rw[if_neg kT]at this
   split<;>omega
  rw[if_pos rfl]at h0
  rw[List.sum_cons,List.sum_cons]
  omega
 | x::r,y::r',b+1,k,h,hc=>by
  have h0:=hc 0 x y rfl rfl
  have h1:=JV r r' b k kL fun t a c ha hb=>by
   have:=hc (t+1) a c ha hb
   by_cases e:t=b
   ·rw[if_pos kT]at this;rw[if_pos e];exact this
   ·rw[if_neg kT]at this;rw[if_neg e];exact this
  rw[if_neg kT]at h0
  rw[List.sum_cons,List.sum_cons]
  omega
section
variable {p q q1 q2:Z2} {b i:Nat} {mid m1 m2:List Mach} {S S1 S2:Int}
theorem Xx.mem (h:Xx p q b i mid S) {t : Nat} {x y:ZD} (hx:p.blocks[t]? = some x) (hy:q.blocks[t]? = some y):∀ z∈y.ins,z.m∈mid∨∃ z'∈x.ins,z'.m=z.m:=fun z hz=>by
 have h1:z.m∈y.ins.map fun z=>z.m:=List.mem_map.2 ⟨z,hz,rfl⟩
 rw[(h.each t x y hx hy).2]at h1
 have h2:∀ m,m∈(x.ins.map fun z=>z.m)→∃ z'∈x.ins,z'.m=m:=fun m hm=>by
  obtain⟨z',a1,a2⟩:=List.mem_map.1 hm
  exact⟨z',a1,a2⟩
 split at h1
 ·rcases List.mem_append.1 h1 with h1|h1
  ·exact .inr (h2 _ (List.mem_of_mem_take h1))
  ·rcases List.mem_append.1 h1 with h1|h1
   ·exact .inl h1
   ·exact .inr (h2 _ (List.mem_of_mem_drop h1))
 ·exact .inr (h2 _ h1)
theorem Zc2 {n : Int} {e f:Yb} (h:Vp n e) (hs:Wi e f=true):Vp n f:=by
 obtain⟨f1,f2,f3,f4,f5⟩:=(Xz _ _).1 hs;obtain⟨eo,ea,eb,et,ev,ei⟩:=e;obtain⟨fo,fa,fb,ft,fv,fi⟩:=f;dsimp only at f1 f2 f3 f4 f5;subst f1 f2 f3 f4 f5;exact⟨h.fits,h.need,h.goals⟩
theorem Xx.right (hp:PrgGood p) (h:Xx p q b i mid S) (hS:p.slots≤S∧S≤16384) (hd:∀ m∈mid,PGood S m) (hl:mid.length≤10):rightB q=true:=by
 have hx:∀ (t:Nat) (y:ZD),q.blocks[t]? = some y→∃ x,p.blocks[t]? = some x:=fun t y hy=>⟨_,List.getElem?_eq_getElem (by have:=(List.getElem?_eq_some_iff.1 hy).1;have:=h.len;omega)⟩
 refine WX (by rw[h.params];exact hp.params) (by rw[h.k];exact hp.k) (by rw[h.slots];have:=hp.slots;omega) (by rw[h.len];have:=hp.blocks;omega) ?_ fun y hy=>?_
 ·have h1:=JV (p.blocks.map fun x=>x.ins.length) (q.blocks.map fun x=>x.ins.length) b 10 (by rw[List.length_map,List.length_map,h.len]) fun t a c ha hc=>by
   rw[List.getElem?_map]at ha hc;obtain⟨x,hb,rfl⟩:=Option.map_eq_some_iff.1 ha;obtain⟨y,he,rfl⟩:=Option.map_eq_some_iff.1 hc;have h2:=congrArg List.length (h.each t x y hb he).2;rw[List.length_map]at h2;by_cases e:t=b
   ·rw[if_pos e]at h2 ⊢;simp only[List.length_append,List.length_take,List.length_drop,List.length_map]at h2;omega
   ·rw[if_neg e]at h2 ⊢;rw[List.length_map]at h2;omega
  have h2:=hp.total;unfold ptotal at h2 ⊢;rw[h.len];omega
 ·obtain⟨t,ht⟩:=List.getElem?_of_mem hy;obtain⟨x,hb⟩:=hx t y ht;have hg:=hp.each x (List.mem_of_getElem? hb);refine⟨fun z hz=>?_,by rw[h.len];exact Zc2 hg.fin (h.each t x y hb ht).1⟩;rw[h.slots];rcases h.mem hb ht z hz with h1|⟨z',h1,h2⟩
  ·exact hd _ h1
  ·rw[←h2];exact (hg.ins z' h1).more hS.1
theorem Qs {R : St→St→Prop} {inp:InV} (hp:PrgGood p) (hi:0≤p.slots) (h1:Xx p q1 b i m1 S1) (h2:Xx p q2 b i m2 S2) (hh:rightB q1=true) (hg:rightB q2=true) (hb:∀ s t,R s t→t.regs=s.regs∧t.mem=s.mem∧t.calls=s.calls)
  (hc:∀ m,PV p.slots.toNat m→∀ s t,R s t→ExR R (stepM m inp.ans s) (stepM m inp.ans t)) (he:∀ s t,R s t→∃ s' t',ZX inp.ans m1 s=(none,s')∧ZX inp.ans m2 t=(none,t')∧R s' t')
  (hf:R (st0 q1 inp) (st0 q2 inp)) (e1:(YW q1 inp).e≠3) (e2:(YW q2 inp).e≠3):KC (YW q1 inp) (YW q2 inp):=by
 have hx:∀ (t:Nat) (y:ZD),q1.blocks[t]? = some y→∃ x,p.blocks[t]? = some x:=fun t y hy=>⟨_,List.getElem?_eq_getElem (by have:=(List.getElem?_eq_some_iff.1 hy).1;have:=h1.len;omega)⟩
 have hd:∀ (t:Nat) (x:ZD),p.blocks[t]? = some x→∀ m∈(x.ins.map fun z=>z.m),PV p.slots.toNat m:=fun t x ht m hm=>by
  obtain⟨z,hz,rfl⟩:=List.mem_map.1 hm;exact ((hp.each x (List.mem_of_getElem? ht)).ins z hz).pv hi
 refine ZbD hh hg (by rw[h1.len,h2.len]) hb (fun t y z hy hz=>?_) (fun t y z hy hz s s' hs=>?_) hf e1 e2
 ·obtain⟨x,ha⟩:=hx t y hy;have a1:=(Xz _ _).1 (h1.each t x y ha hy).1;have a2:=(Xz _ _).1 (h2.each t x z ha hz).1;exact (Xz _ _).2 ⟨a1.1.symm.trans a2.1,a1.2.1.symm.trans a2.2.1,a1.2.2.1.symm.trans a2.2.2.1,a1.2.2.2.1.symm.trans a2.2.2.2.1,a1.2.2.2.2.symm.trans a2.2.2.2.2⟩
 ·obtain⟨x,ha⟩:=hx t y hy;rw[(h1.each t x y ha hy).2,(h2.each t x z ha hz).2];by_cases e:t=b
  ·rw[if_pos e,if_pos e];exact Zc1 hc hb (fun m hm=>hd t x ha m (List.mem_of_mem_take hm)) (fun m hm=>hd t x ha m (List.mem_of_mem_drop hm)) he s s' hs
  ·rw[if_neg e,if_neg e];exact Vm hc hb _ (hd t x ha) s s' hs
theorem Zbx (p:Z2) (inp:InV):WfS p.slots.toNat (st0 p inp):=⟨by unfold st0 Jv;rw[List.length_map,List.length_range],by unfold st0;exact List.length_replicate⟩
theorem Xx.none (p:Z2) (b i:Nat):Xx p p b i [] p.slots:=⟨rfl,rfl,rfl,rfl,fun t x y hx hy=>by
 rw[hx]at hy
 obtain rfl:=Option.some.inj hy
 refine⟨(Xz _ _).2 ⟨rfl,rfl,rfl,rfl,rfl⟩,?_⟩
 rw[List.nil_append,List.take_append_drop]
 split<;>rfl⟩
theorem Qb {S : Int} {c d:Int} (hc:0≤c∧c<4) (hd:0≤d∧d<4):PGood S (VK c d):=by
 refine⟨rfl,Wx fun r h=>?_,fun h=>(by cases h),rfl,?_,?_,?_⟩
 ·have h:r∈[c,d,c,d]:=h;simp only[List.mem_cons,List.not_mem_nil,or_false]at h;rcases h with rfl|rfl|rfl|rfl<;>assumption
 ·show (-2147483648:Int)≤0;decide
 ·show (0:Int)≤2147483647;decide
 ·show (0:Nat)≤1000;decide
theorem ZcH {S : Int} {c d:Int} (hc:0≤c∧c<4) (hd:0≤d∧d<4):PGood S (ZcI c d):=by
 refine⟨rfl,Wx fun r h=>?_,fun h=>(by cases h),rfl,?_,?_,?_⟩
 ·have h:r∈[d,c]:=h;simp only[List.mem_cons,List.not_mem_nil,or_false]at h;rcases h with rfl|rfl<;>assumption
 ·show (-2147483648:Int)≤0;decide
 ·show (0:Int)≤2147483647;decide
 ·show (0:Nat)≤1000;decide
theorem Zct {inp:InV} {c d:Int} (hc:0≤c∧c<4) (hd:0≤d∧d<4) (hp:PrgGood p) (h1:Xx p q1 b i [VK c d] p.slots) (h2:Xx p q2 b i [Zed c p.slots,ZcI c d,Zee d p.slots] (p.slots+1)) (e1:(YW q1 inp).e≠3) (e2:(YW q2 inp).e≠3):KC (YW q1 inp) (YW q2 inp):=by
 have hs:=hp.slots;obtain⟨n,hn⟩:∃ n:Nat,p.slots=n:=⟨p.slots.toNat,kT⟩
 have hb:=h1.right hp ⟨Int.le_refl _,kT⟩ (fun m hm=>by rw[List.mem_singleton.1 hm];exact Qb hc hd) kU;have ha:=h2.right hp ⟨kT,kT⟩ (fun m hm=>by
  simp only[List.mem_cons,List.not_mem_nil,or_false]at hm;rcases hm with rfl|rfl|rfl
  ·exact Jd (op:=31) (.inr rfl) hc ⟨hs.1,kT⟩ kT
  ·exact ZcH hc hd
  ·exact Jd (op:=30) (.inl rfl) hd ⟨hs.1,kT⟩ kT) kU
 have ht:p.slots.toNat=n:=kT
 refine Qs (R:=JD n) hp hs.1 h1 h2 hb ha ZbV (fun m hm s t h=>Za1 m (by rw[ht]at hm;exact hm) s t h) (fun s t h=>by rw[hn];exact ZeH hc hd s t h) ?_ e1 e2
 have w1:=Zbx q1 inp;rw[h1.slots,ht]at w1;refine⟨w1,?_,rfl,rfl,0,?_⟩
 ·unfold st0 Jv;dsimp only;rw[h1.params,h2.params]
 ·unfold st0;dsimp only;rw[h1.slots,h2.slots,show (p.slots+1).toNat=p.slots.toNat+1 from by omega,List.replicate_succ']
theorem Zal {inp:InV} {c d:Int} (hc:0≤c∧c<4) (hd:0≤d∧d<4) (hp:PrgGood p) (h2:Xx p q2 b i [VK c d,VK c d] p.slots) (e1:(YW p inp).e≠3) (e2:(YW q2 inp).e≠3):KC (YW p inp) (YW q2 inp):=by
 have hs:=hp.slots;have ha:=h2.right hp ⟨Int.le_refl _,kT⟩ (fun m hm=>by
  simp only[List.mem_cons,List.not_mem_nil,or_false]at hm;rcases hm with rfl|rfl<;>exact Qb hc hd) kU
 refine Qs (R:=JC p.slots.toNat) hp hs.1 (Xx.none p b i) h2 hp.right ha ZbC (fun m hm s t h=>ZaM m hm s t h) (fun s t h=>Zbr hc hd s t h) ?_ e1 e2;refine⟨Zbx p inp,?_⟩;unfold st0 Jv;rw[h2.params,h2.slots]
end
end Go.Proofs.YtimpddecdodddaaGreat
