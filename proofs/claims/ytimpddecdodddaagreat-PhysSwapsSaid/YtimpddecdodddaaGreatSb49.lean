import Derived.Test.YtimpddecdodddaaGreatSb48
namespace Go.Proofs.YtimpddecdodddaaGreat
open Go.RowKit Go.Lib
set_option linter.unusedVariables false
set_option maxHeartbeats 2000000
set_option maxRecDepth 100000
theorem jo {P:Prop} (h:P:=by unfold loadB at hl;rw[o]at hl;exact absurd hl (by decide)):P:=h
theorem js {P:Prop} (h:P:=by unfold X3 at hp;rw[o]at hp;exact absurd hp (by decide)):P:=h
def atP (s:St) (p:Int):Int:=if p<16 then s.regs.getD p.toNat 0 else s.slots.getD (p-16).toNat 0
def updP (s:St) (p v:Int):St:=if p<16 then { s with regs:=s.regs.set p.toNat v } else { s with slots:=s.slots.set (p-16).toNat v }
def updsP:St→List Int→List Int→St
 | s,p::ps,v::vs=>updsP (updP s p v) ps vs
 | s,_,_=>s
structure WfS (S:Nat) (s:St):Prop where
 regs:s.regs.length=16
 slots:s.slots.length=S
def InP (S:Nat) (p:Int):Prop:=0≤p∧p<16+(S:Int)
section
variable {S : Nat} {s t:St} {p q v:Int}
theorem KS (h:WfS S s):WfS S (updP s p v):=by
 unfold updP;split
 ·exact⟨by rw[List.length_set];exact h.regs,h.slots⟩
 ·exact⟨h.regs,by rw[List.length_set];exact h.slots⟩
theorem QM:∀ (ps vs:List Int) {s : St},WfS S s→WfS S (updsP s ps vs)
 | [],_,_,h=>by unfold updsP;exact h
 | _::_,[],_,h=>by unfold updsP;exact h
 | p::ps,v::vs,_,h=>by unfold updsP;exact QM ps vs (KS h)
theorem Ym (h:WfS S s) {r : Int} (hr:0≤r∧r<16):getR s.regs r=atP s r:=by
 unfold getR atP;rw[if_pos (by rw[h.regs];omega),if_pos hr.2]
theorem WW (h:WfS S s) {r : Int} (hr:0≤r∧r<16) (v:Int):{ s with regs:=setR s.regs r v }=updP s r v:=by
 unfold setR updP;rw[if_pos (by rw[h.regs];omega),if_pos hr.2]
end
abbrev ZfG:Type:=List Int→List Int→List (Int × List Int)→Option Int × List Int × List Int × List (Int × List Int)
def Vt (m:Mach) (s:St) (r:Option Int × List Int × List Int × List (Int × List Int)):Option Int × St:=
 (r.1,if r.1=none then { updsP s (changes m) r.2.1 with mem:=r.2.2.1,calls:=r.2.2.2 } else s)
structure QF (S:Nat) (ans:List Int) (m:Mach) (E:ZfG):Prop where
 step:∀ s,WfS S s→stepM m ans s=Vt m s (E ((takes m).map (atP s)) s.mem s.calls)
 len:∀ a mem calls,(E a mem calls).2.1.length=(changes m).length
 plain:X3 m.op=false→∃ V:List Int→List Int,∀ a mem calls,E a mem calls=(none,V a,mem,calls)
 load:loadB m.op=true→∃ (V:List Int→List Int→List Int) (T:List Int→List Int→Option Int),∀ a mem calls,E a mem calls=(T a mem,V a mem,mem,calls)∧(T a mem=none∨T a mem=some (-2))
 takes:∀ p∈takes m,InP S p
 changes:∀ p∈changes m,InP S p
structure PV (S:Nat) (m:Mach):Prop where
 shape:shapeB m=true
 regs:∀ r∈regsOf m,0≤r∧r<16
 slot:Y2 m=true→0≤m.imm∧m.imm<S
theorem PV.of {m : Mach} {k slots:Int} (h:Yv m k slots=0) (hk:k≤16) (hs:0≤slots):PV slots.toNat m:=by
 unfold Yv at h;split at h
 ·cases h
 rename_i h1
 split at h
 ·cases h
 rename_i h2
 split at h
 ·cases h
 rename_i h3
 refine⟨by simpa using h1,fun r hr=>?_,fun ha=>?_⟩
 ·unfold YC at h2;rw[Bool.not_eq_true,List.any_eq_false]at h2;have:=h2 r hr;simp only[Bool.or_eq_true,decide_eq_true_eq]at this;omega
 ·rw[ha,Bool.true_and,Bool.or_eq_true,decide_eq_true_eq,decide_eq_true_eq]at h3;omega
section
variable {S : Nat} {ans:List Int}
theorem inReg {r : Int} (h:0≤r∧r<16):InP S r:=⟨h.1,kT⟩
theorem XF {m : Mach} (h:PV S m) (h2:m.op≠30∧m.op≠31∧m.op≠28) (hc:changes m=[m.d]) (V:List Int→List Int→Int) (T:List Int→List Int→Option Int)
  (hd:∀ s:St,WfS S s→doM m s.regs s.mem=(T ((takes m).map (atP s)) s.mem,if T ((takes m).map (atP s)) s.mem=none then setR s.regs m.d (V ((takes m).map (atP s)) s.mem) else s.regs,s.mem))
  (hp:X3 m.op=false→∃ V':List Int→Int,∀ a mem,T a mem=none∧V a mem=V' a) (hl:loadB m.op=true→∀ a mem,T a mem=none∨T a mem=some (-2)) :
  QF S ans m (fun a mem calls=>(T a mem,[V a mem],mem,calls)):=by
 have hr:∀ r∈takes m++makes m,0≤r∧r<16:=by
  have h3:=h.regs;unfold regsOf at h3
  rwa [if_neg kT]at h3
 have hm:makes m=[m.d]:=by
  unfold changes YU at hc;rw[if_neg h2.2.2,List.append_nil]at hc;exact hc
 have ha:0≤m.d∧m.d<16:=hr m.d (by rw[hm];simp);refine⟨fun s hs=>?_,fun a mem calls=>by rw[hc];rfl,fun h1=>?_,fun h1=>?_,fun p hp=>inReg (hr p (List.mem_append_left _ hp)),fun p hp=>?_⟩
 ·unfold stepM Vt;rw[if_neg h2.1,if_neg h2.2.1,if_neg h2.2.2,hd s hs,hc];dsimp only;by_cases ht:T ((takes m).map (atP s)) s.mem=none
  ·rw[if_pos ht,if_pos ht];unfold updsP updsP;rw[←WW hs ha]
  ·rw[if_neg ht,if_neg ht]
 ·obtain⟨V',h3⟩:=hp h1;exact⟨fun a=>[V' a],fun a mem calls=>by rw[(h3 a mem).1,(h3 a mem).2]⟩
 ·exact⟨fun a mem=>[V a mem],T,fun a mem calls=>⟨rfl,hl h1 a mem⟩⟩
 ·rw[hc,List.mem_singleton]at hp;rw[hp];exact inReg ha
theorem Zc4 {op a b:Int} (h:2≤op∧op≤13):(doI op a b).isSome=true:=by
 have:op=2∨op=3∨op=4∨op=5∨op=6∨op=7∨op=8∨op=9∨op=10∨op=11∨op=12∨op=13:=kT
 rcases this with rfl|rfl|rfl|rfl|rfl|rfl|rfl|rfl|rfl|rfl|rfl|rfl<;>rfl
theorem PV.in {m : Mach} (h:PV S m) (h2:m.op≠30∧m.op≠31):∀ r∈takes m++makes m,0≤r∧r<16:=by
 have h3:=h.regs;unfold regsOf at h3
 rwa [if_neg kT]at h3
theorem Kc {m : Mach} (h:PV S m) (h2:m.op≠30∧m.op≠31∧m.op≠28) (V:List Int→List Int) (hc:changes m=makes m) (ha:∀ a,(V a).length=(makes m).length)
  (hd:∀ s:St,WfS S s→doM m s.regs s.mem=(none,(updsP s (makes m) (V ((takes m).map (atP s)))).regs,s.mem)):QF S ans m (fun a mem calls=>(none,V a,mem,calls)):=by
 have hr:=h.in ⟨h2.1,h2.2.1⟩;refine⟨fun s hs=>?_,fun a mem calls=>by rw[hc];exact ha a,fun h1=>⟨V,fun _ _ _=>rfl⟩,fun h1=>⟨fun a _=>V a,fun _ _=>none,fun _ _ _=>⟨rfl,.inl rfl⟩⟩,fun p hp=>inReg (hr p (List.mem_append_left _ hp)),fun p hp=>inReg (hr p (List.mem_append_right _ (hc ▸ hp)))⟩
 unfold stepM Vt;rw[if_neg h2.1,if_neg h2.2.1,if_neg h2.2.2,hd s hs,hc];dsimp only;rw[if_pos rfl];have hb:∀ (ps vs:List Int) (t:St),(∀ p∈ps,p<16)→(updsP t ps vs).slots=t.slots:=by
  intro ps;induction ps with
  | nil=>intro vs t _;unfold updsP;rfl
  | cons p ps ih =>
   intro vs t hp
   cases vs with
   | nil=>unfold updsP;rfl
   | cons v vs =>
    unfold updsP;rw[ih vs _ fun q hq=>hp q (List.mem_cons_of_mem _ hq)];unfold updP;rw[if_pos (hp p List.mem_cons_self)]
 have h4:=hb (makes m) (V ((takes m).map (atP s))) s fun p hp=>(hr p (List.mem_append_right _ hp)).2
 congr 1
 obtain⟨a,b,c,d⟩:=s;simp only[St.mk.injEq,true_and,and_true];exact h4.symm
theorem JI {m : Mach} (h:PV S m) (o:m.op=26∨m.op=27):∃ E,QF S ans m E:=by
 have hm:makes m=[]:=by unfold makes makes7;rw[if_neg kT,if_neg kT,if_neg kT,if_neg kT,if_pos kT]
 have hc:changes m=[]:=by unfold changes YU;rw[hm,if_neg kT,List.append_nil]
 have hr:=h.in ⟨kT,kT⟩;rcases o with o|o
 ·have ht:takes m=[m.a,m.b]:=by unfold takes takes7;rw[if_neg kT,if_neg kT,if_neg kT,if_pos kT]
  rw[ht,hm]at hr;refine⟨fun a mem calls=>(if 0≤wrap32 (a.getD 0 0+m.imm)∧wrap32 (a.getD 0 0+m.imm)<(mem.length:Int) then none else some (-2),[],mem.set (wrap32 (a.getD 0 0+m.imm)).toNat (a.getD 1 0),calls),fun s hs=>?_,fun _ _ _=>by rw[hc];try rfl,fun hp=>?_,fun hl=>?_,fun p hp=>inReg (hr p (by rw[ht]at hp;exact List.mem_append_left _ hp)),fun p hp=>by rw[hc]at hp;cases hp⟩
  ·have hd:doM m s.regs s.mem=(if 0≤wrap32 (getR s.regs m.a+m.imm)∧wrap32 (getR s.regs m.a+m.imm)<(s.mem.length:Int) then (none,s.regs,s.mem.set (wrap32 (getR s.regs m.a+m.imm)).toNat (getR s.regs m.b)) else (some (-2),s.regs,s.mem)):=by simp[doM,o]
   unfold stepM Vt;rw[if_neg kT,if_neg kT,if_neg kT,hd,Ym hs (hr m.a kU),Ym hs (hr m.b kU),hc,ht];unfold updsP;show _=(if 0≤wrap32 (atP s m.a+m.imm)∧wrap32 (atP s m.a+m.imm)<(s.mem.length:Int) then none else some (-2),if (if 0≤wrap32 (atP s m.a+m.imm)∧wrap32 (atP s m.a+m.imm)<(s.mem.length:Int) then none else some (-2))=none then { s with mem:=s.mem.set (wrap32 (atP s m.a+m.imm)).toNat (atP s m.b) } else s)
   split<;>rfl
  ·exact js
  ·exact jo
 ·have ht:takes m=[m.a,m.b,m.c]:=by unfold takes takes7;rw[if_neg kT,if_neg kT,if_neg kT,if_neg kT,if_pos kT]
  rw[ht,hm]at hr;refine⟨fun a mem calls=>(if 0≤wrap32 (a.getD 0 0+a.getD 1 0)∧wrap32 (a.getD 0 0+a.getD 1 0)<(mem.length:Int) then none else some (-2),[],mem.set (wrap32 (a.getD 0 0+a.getD 1 0)).toNat (a.getD 2 0),calls),fun s hs=>?_,fun _ _ _=>by rw[hc];try rfl,fun hp=>?_,fun hl=>?_,fun p hp=>inReg (hr p (by rw[ht]at hp;exact List.mem_append_left _ hp)),fun p hp=>by rw[hc]at hp;cases hp⟩
  ·have hd:doM m s.regs s.mem=(if 0≤wrap32 (getR s.regs m.a+getR s.regs m.b)∧wrap32 (getR s.regs m.a+getR s.regs m.b)<(s.mem.length:Int) then (none,s.regs,s.mem.set (wrap32 (getR s.regs m.a+getR s.regs m.b)).toNat (getR s.regs m.c)) else (some (-2),s.regs,s.mem)):=by simp[doM,o]
   unfold stepM Vt;rw[if_neg kT,if_neg kT,if_neg kT,hd,Ym hs (hr m.a kU),Ym hs (hr m.b kU),Ym hs (hr m.c kU),hc,ht];unfold updsP;show _=(if 0≤wrap32 (atP s m.a+atP s m.b)∧wrap32 (atP s m.a+atP s m.b)<(s.mem.length:Int) then none else some (-2),if (if 0≤wrap32 (atP s m.a+atP s m.b)∧wrap32 (atP s m.a+atP s m.b)<(s.mem.length:Int) then none else some (-2))=none then { s with mem:=s.mem.set (wrap32 (atP s m.a+atP s m.b)).toNat (atP s m.c) } else s)
   split<;>rfl
  ·exact js
  ·exact jo
theorem Zbw {m : Mach} (h:PV S m):∃ E,QF S ans m E:=by
 have hf:=h.shape;have hk:1≤m.op∧m.op≤31:=by
  unfold shapeB at hf;split at hf
  ·omega
  ·split at hf
   ·omega
   ·rw[Bool.and_eq_true,decide_eq_true_eq,decide_eq_true_eq]at hf;exact hf
 have hg:m.op=1∨m.op=2∨(m.op=3∨m.op=4)∨(5≤m.op∧m.op≤17)∨(18≤m.op∧m.op≤22)∨m.op=23∨m.op=24∨m.op=25∨m.op=26∨m.op=27∨m.op=28∨m.op=29∨m.op=30∨m.op=31:=kT
 rcases hg with o|o|o|o|o|o|o|o|o|o|o|o|o|o
 ·
  have ht:takes m=[m.a]:=by unfold takes takes7;rw[if_neg kT,if_neg kT,if_pos kT]
  have hm:makes m=[m.d]:=by unfold makes makes7;rw[if_neg kT,if_neg kT,if_neg kT,if_neg kT,if_neg kT]
  have hc:changes m=[m.d]:=by unfold changes YU;rw[hm,if_neg kT,List.append_nil]
  have hr:=h.in ⟨kT,kT⟩;rw[ht,hm]at hr;refine⟨_,XF h kT hc (fun a _=>a.getD 0 0) (fun _ _=>none) (fun s hs=>?_) (fun _=>⟨fun a=>a.getD 0 0,fun _ _=>⟨rfl,rfl⟩⟩) (fun _ _ _=>.inl rfl)⟩;rw[ht,if_pos rfl];unfold doM;rw[if_pos o,Ym hs (hr m.a kU)];rfl
 ·
  have ht:takes m=[m.a,m.b]:=by unfold takes;rw[if_pos o]
  have hm:makes m=[m.a,m.b]:=by unfold makes;rw[if_pos o]
  have hc:changes m=makes m:=by unfold changes YU;rw[if_neg kT,List.append_nil]
  have hr:=h.in ⟨kT,kT⟩;rw[ht,hm]at hr;have ha:=hr m.a kU;have hb:=hr m.b kU;refine⟨_,Kc h kT (fun a=>[a.getD 1 0,a.getD 0 0]) hc (fun _=>by rw[hm];rfl) (fun s hs=>?_)⟩;rw[ht,hm];unfold doM;rw[if_neg kT,if_pos o,Ym hs ha,Ym hs hb];unfold updsP updsP updsP;show _=(none,(updP (updP s m.a (atP s m.b)) m.b (atP s m.a)).regs,s.mem)
  rw[←WW (KS hs) hb,←WW hs ha]
 ·
  have ht:takes m=[]:=by unfold takes takes7;rw[if_neg kT,if_neg kT,if_neg kT,if_neg kT,if_neg kT,if_neg kT]
  have hm:makes m=[m.d]:=by unfold makes makes7;rw[if_neg kT,if_neg kT,if_neg kT,if_neg kT,if_neg kT]
  have hc:changes m=[m.d]:=by unfold changes YU;rw[hm,if_neg kT,List.append_nil]
  refine⟨_,XF h kT hc (fun _ _=>m.imm) (fun _ _=>none) (fun s hs=>?_) (fun _=>⟨fun _=>m.imm,fun _ _=>⟨rfl,rfl⟩⟩) (fun _ _ _=>.inl rfl)⟩;rw[if_pos rfl];unfold doM;rw[if_neg kT,if_neg kT,if_pos o]
 ·
  have ht:takes m=[m.a,m.b]:=by unfold takes takes7;rw[if_neg kT,if_neg kT,if_neg kT,if_pos kT]
  have hm:makes m=[m.d]:=by unfold makes makes7;rw[if_neg kT,if_neg kT,if_neg kT,if_neg kT,if_neg kT]
  have hc:changes m=[m.d]:=by unfold changes YU;rw[hm,if_neg kT,List.append_nil]
  have hr:=h.in ⟨kT,kT⟩;rw[ht,hm]at hr;refine⟨_,XF h kT hc (fun a _=>(doI (m.op-3) (a.getD 0 0) (a.getD 1 0)).getD 0) (fun a _=>if (doI (m.op-3) (a.getD 0 0) (a.getD 1 0)).isSome then none else some (-1)) (fun s hs=>?_) (fun hp=>⟨fun a=>(doI (m.op-3) (a.getD 0 0) (a.getD 1 0)).getD 0,fun a _=>⟨?_,rfl⟩⟩) (fun hl=>?_)⟩
  ·rw[ht];unfold doM;rw[if_neg kT,if_neg kT,if_neg kT,if_pos o,Ym hs (hr m.a kU),Ym hs (hr m.b kU)];show _=(if (doI (m.op-3) (atP s m.a) (atP s m.b)).isSome then none else some (-1),if (if (doI (m.op-3) (atP s m.a) (atP s m.b)).isSome then none else some (-1))=none then setR s.regs m.d ((doI (m.op-3) (atP s m.a) (atP s m.b)).getD 0) else s.regs,s.mem)
   cases doI (m.op-3) (atP s m.a) (atP s m.b) with
   | none=>rfl
   | some v=>rfl
  ·have hn:m.op≠17:=fun e=>by unfold X3 at hp;rw[e]at hp;exact absurd hp kS
   try dsimp only
   rw[if_pos (Zc4 kT)]
  ·unfold loadB at hl;rw[Bool.or_eq_true,beq_iff_eq,beq_iff_eq]at hl;omega
 ·
  have ht:takes m=[m.a]:=by unfold takes takes7;rw[if_neg kT,if_neg kT,if_pos kT]
  have hm:makes m=[m.d]:=by unfold makes makes7;rw[if_neg kT,if_neg kT,if_neg kT,if_neg kT,if_neg kT]
  have hc:changes m=[m.d]:=by unfold changes YU;rw[hm,if_neg kT,List.append_nil]
  have hr:=h.in ⟨kT,kT⟩;rw[ht,hm]at hr;refine⟨_,XF h kT hc (fun a _=>(doI (aluOp m.op) (a.getD 0 0) m.imm).getD 0) (fun _ _=>none) (fun s hs=>?_) (fun _=>⟨fun a=>(doI (aluOp m.op) (a.getD 0 0) m.imm).getD 0,fun _ _=>⟨rfl,rfl⟩⟩) (fun _ _ _=>.inl rfl)⟩
  rw[ht,if_pos rfl];unfold doM;rw[if_neg kT,if_neg kT,if_neg kT,if_neg kT,if_pos o,Ym hs (hr m.a kU)];rfl
 ·
  have ht:takes m=[m.a,m.b,m.c]:=by unfold takes takes7;rw[if_neg kT,if_neg kT,if_neg kT,if_neg kT,if_pos kT]
  have hm:makes m=[m.d]:=by unfold makes makes7;rw[if_neg kT,if_neg kT,if_neg kT,if_neg kT,if_neg kT]
  have hc:changes m=[m.d]:=by unfold changes YU;rw[hm,if_neg kT,List.append_nil]
  have hr:=h.in ⟨kT,kT⟩;rw[ht,hm]at hr;refine⟨_,XF h kT hc (fun a _=>wrap32 (wrap32 (a.getD 0 0*a.getD 1 0)+a.getD 2 0)) (fun _ _=>none) (fun s hs=>?_) (fun _=>⟨fun a=>wrap32 (wrap32 (a.getD 0 0*a.getD 1 0)+a.getD 2 0),fun _ _=>⟨rfl,rfl⟩⟩) (fun _ _ _=>.inl rfl)⟩
  rw[ht,if_pos rfl];unfold doM;rw[if_neg kT,if_neg kT,if_neg kT,if_neg kT,if_neg kT,if_pos o,Ym hs (hr m.a kU),Ym hs (hr m.b kU),Ym hs (hr m.c kU)];rfl
 ·
  have ht:takes m=[m.a]:=by unfold takes takes7;rw[if_neg kT,if_neg kT,if_pos kT]
  have hm:makes m=[m.d]:=by unfold makes makes7;rw[if_neg kT,if_neg kT,if_neg kT,if_neg kT,if_neg kT]
  have hc:changes m=[m.d]:=by unfold changes YU;rw[hm,if_neg kT,List.append_nil]
  have hr:=h.in ⟨kT,kT⟩;rw[ht,hm]at hr;refine⟨_,XF h kT hc (fun a mem=>mem.getD (wrap32 (a.getD 0 0+m.imm)).toNat 0) (fun a mem=>if 0≤wrap32 (a.getD 0 0+m.imm)∧wrap32 (a.getD 0 0+m.imm)<(mem.length:Int) then none else some (-2)) (fun s hs=>?_) (fun hp=>?_) (fun _ a mem=>?_)⟩
  ·rw[ht];have hd:doM m s.regs s.mem=(if 0≤wrap32 (getR s.regs m.a+m.imm)∧wrap32 (getR s.regs m.a+m.imm)<(s.mem.length:Int) then (none,setR s.regs m.d (s.mem.getD (wrap32 (getR s.regs m.a+m.imm)).toNat 0),s.mem) else (some (-2),s.regs,s.mem)):=by simp[doM,o]
   rw[hd,Ym hs (hr m.a kU)];show (if 0≤wrap32 (atP s m.a+m.imm)∧wrap32 (atP s m.a+m.imm)<(s.mem.length:Int) then _ else _)=(if 0≤wrap32 (atP s m.a+m.imm)∧wrap32 (atP s m.a+m.imm)<(s.mem.length:Int) then none else some (-2),if (if 0≤wrap32 (atP s m.a+m.imm)∧wrap32 (atP s m.a+m.imm)<(s.mem.length:Int) then none else some (-2))=none then setR s.regs m.d (s.mem.getD (wrap32 (atP s m.a+m.imm)).toNat 0) else s.regs,s.mem)
   split<;>rfl
  ·exact js
  ·try dsimp only
   split
   ·exact .inl rfl
   ·exact .inr rfl
 ·
  have ht:takes m=[m.a,m.b]:=by unfold takes takes7;rw[if_neg kT,if_neg kT,if_neg kT,if_pos kT]
  have hm:makes m=[m.d]:=by unfold makes makes7;rw[if_neg kT,if_neg kT,if_neg kT,if_neg kT,if_neg kT]
  have hc:changes m=[m.d]:=by unfold changes YU;rw[hm,if_neg kT,List.append_nil]
  have hr:=h.in ⟨kT,kT⟩;rw[ht,hm]at hr;refine⟨_,XF h kT hc (fun a mem=>mem.getD (wrap32 (a.getD 0 0+a.getD 1 0)).toNat 0) (fun a mem=>if 0≤wrap32 (a.getD 0 0+a.getD 1 0)∧wrap32 (a.getD 0 0+a.getD 1 0)<(mem.length:Int) then none else some (-2)) (fun s hs=>?_) (fun hp=>?_) (fun _ a mem=>?_)⟩
  ·rw[ht];have hd:doM m s.regs s.mem=(if 0≤wrap32 (getR s.regs m.a+getR s.regs m.b)∧wrap32 (getR s.regs m.a+getR s.regs m.b)<(s.mem.length:Int) then (none,setR s.regs m.d (s.mem.getD (wrap32 (getR s.regs m.a+getR s.regs m.b)).toNat 0),s.mem) else (some (-2),s.regs,s.mem)):=by simp[doM,o]
   rw[hd,Ym hs (hr m.a kU),Ym hs (hr m.b kU)];show (if 0≤wrap32 (atP s m.a+atP s m.b)∧wrap32 (atP s m.a+atP s m.b)<(s.mem.length:Int) then _ else _)=(if 0≤wrap32 (atP s m.a+atP s m.b)∧wrap32 (atP s m.a+atP s m.b)<(s.mem.length:Int) then none else some (-2),if (if 0≤wrap32 (atP s m.a+atP s m.b)∧wrap32 (atP s m.a+atP s m.b)<(s.mem.length:Int) then none else some (-2))=none then setR s.regs m.d (s.mem.getD (wrap32 (atP s m.a+atP s m.b)).toNat 0) else s.regs,s.mem)
   split<;>rfl
  ·exact js
  ·try dsimp only
   split
   ·exact .inl rfl
   ·exact .inr rfl
 ·exact JI h (.inl o)
 ·exact JI h (.inr o)
 ·
  have ht:takes m=m.args:=by unfold takes takes7;rw[if_neg kT,if_neg kT,if_neg kT,if_neg kT,if_neg kT,if_pos kT]
  have hj:m.d=0:=by
   unfold shapeB at hf;rw[if_pos o,Bool.and_eq_true,beq_iff_eq]at hf;exact hf.2
  have hm:makes m=[0]:=by unfold makes makes7;rw[if_neg kT,if_neg kT,if_neg kT,if_neg kT,if_neg kT,hj]
  have hc:changes m=[0,1,2,3]:=by unfold changes YU;rw[hm,if_pos o];rfl
  have hr:=h.in ⟨kT,kT⟩;rw[ht]at hr;refine⟨fun a mem calls=>(none,[ans.getD calls.length 0,24302,24303,24304],mem,calls++[(m.imm,a)]),fun s hs=>?_,fun _ _ _=>by rw[hc];rfl,fun hp=>?_,fun hl=>?_,fun p hp=>inReg (hr p (by rw[ht]at hp;exact List.mem_append_left _ hp)),fun p hp=>?_⟩
  ·unfold stepM Vt;rw[if_neg kT,if_neg kT,if_pos o,hc,ht];dsimp only;rw[if_pos rfl];have ha:(m.args.map fun r=>s.regs.getD r.toNat 0)=m.args.map (atP s):=by
    refine List.map_congr_left fun r hi=>?_
    unfold atP;rw[if_pos (hr r (List.mem_append_left _ hi)).2]
   rw[ha];rfl
  ·exact js
  ·exact jo
  ·rw[hc]at hp;simp only[List.mem_cons,List.not_mem_nil,or_false]at hp;exact inReg kT
 ·
  have ht:takes m=[m.a,m.b]:=by unfold takes takes7;rw[if_neg kT,if_neg kT,if_neg kT,if_pos kT]
  have hm:makes m=[m.d,m.e]:=by unfold makes makes7;rw[if_neg kT,if_neg kT,if_neg kT,if_pos kT]
  have hc:changes m=makes m:=by unfold changes YU;rw[if_neg kT,List.append_nil]
  have hr:=h.in ⟨kT,kT⟩;rw[ht,hm]at hr;have hd:=hr m.d kU;have he:=hr m.e kU;refine⟨_,Kc h kT (fun a=>[lowI (a.getD 0 0) (a.getD 1 0),highI (a.getD 0 0) (a.getD 1 0)]) hc (fun _=>by rw[hm];rfl) (fun s hs=>?_)⟩;rw[ht,hm];unfold doM;rw[if_neg kT,if_neg kT,if_neg kT,if_neg kT,if_neg kT,if_neg kT,if_neg kT,if_neg kT,if_pos o,Ym hs (hr m.a kU),Ym hs (hr m.b kU)];unfold updsP updsP updsP;show _=(none,(updP (updP s m.d (lowI (atP s m.a) (atP s m.b))) m.e (highI (atP s m.a) (atP s m.b))).regs,s.mem)
  rw[←WW (KS hs) he,←WW hs hd]
 ·
  have ht:takes m=[16+m.imm]:=by unfold takes;rw[if_neg kT,if_pos o]
  have hm:makes m=[m.d]:=by unfold makes makes7;rw[if_neg kT,if_neg kT,if_neg kT,if_neg kT,if_neg kT]
  have hc:changes m=[m.d]:=by unfold changes YU;rw[hm,if_neg kT,List.append_nil]
  have hh:=h.slot (by unfold Y2;rw[o];rfl);have hd:0≤m.d∧m.d<16:=h.regs m.d (by
   unfold regsOf;rw[if_pos kT];refine List.mem_append_right _ ?_;unfold makes7;rw[if_neg kT,if_neg kT,if_neg kT];simp)
  refine⟨fun a mem calls=>(none,[a.getD 0 0],mem,calls),fun s hs=>?_,fun _ _ _=>by rw[hc];rfl,fun _=>⟨fun a=>[a.getD 0 0],fun _ _ _=>rfl⟩,fun hl=>?_,fun p hp=>?_,fun p hp=>?_⟩
  ·unfold stepM Vt;rw[if_pos o,hc,ht];dsimp only;rw[if_pos rfl];unfold updsP updsP updP;rw[if_pos hd.2];have ha:atP s (16+m.imm)=s.slots.getD m.imm.toNat 0:=by
    unfold atP;rw[if_neg kT,show 16+m.imm-16=m.imm from by omega]
   show _=(none,{ s with regs:=s.regs.set m.d.toNat (atP s (16+m.imm)) })
   rw[ha]
  ·exact jo
  ·rw[ht,List.mem_singleton]at hp;rw[hp];exact jN
  ·rw[hc,List.mem_singleton]at hp;rw[hp];exact inReg hd
 ·
  have ht:takes m=[m.a]:=by unfold takes takes7;rw[if_neg kT,if_neg kT,if_pos kT]
  have hm:makes m=[16+m.imm]:=by unfold makes;rw[if_neg kT,if_pos o]
  have hc:changes m=[16+m.imm]:=by unfold changes YU;rw[hm,if_neg kT,List.append_nil]
  have hh:=h.slot (by unfold Y2;rw[o];rfl);have ha:0≤m.a∧m.a<16:=h.regs m.a (by
   unfold regsOf;rw[if_pos kT];refine List.mem_append_left _ ?_;unfold takes7;rw[if_pos kT];simp)
  refine⟨fun a mem calls=>(none,[a.getD 0 0],mem,calls),fun s hs=>?_,fun _ _ _=>by rw[hc];rfl,fun _=>⟨fun a=>[a.getD 0 0],fun _ _ _=>rfl⟩,fun hl=>?_,fun p hp=>?_,fun p hp=>?_⟩
  ·unfold stepM Vt;rw[if_neg kT,if_pos o,hc,ht];dsimp only;rw[if_pos rfl];unfold updsP updsP updP;rw[if_neg kT,show 16+m.imm-16=m.imm from by omega];have hb:atP s m.a=s.regs.getD m.a.toNat 0:=by
    unfold atP;rw[if_pos ha.2]
   show _=(none,{ s with slots:=s.slots.set m.imm.toNat (atP s m.a) })
   rw[hb]
  ·exact jo
  ·rw[ht,List.mem_singleton]at hp;rw[hp];exact inReg ha
  ·rw[hc,List.mem_singleton]at hp;rw[hp];exact jN
end
section
variable {S : Nat} {ans:List Int}
theorem ZdY {m : Mach} {s : St} (hs:WfS S s) (r:Option Int × List Int × List Int × List (Int × List Int)):WfS S (Vt m s r).2:=by
 unfold Vt;dsimp only;split
 ·have h:=QM (changes m) r.2.1 hs;exact⟨h.regs,h.slots⟩
 ·exact hs
theorem Zaw {m : Mach} (h:PV S m) {s : St} (hs:WfS S s):WfS S (stepM m ans s).2:=by
 obtain⟨E,hE⟩:=Zbw (ans:=ans) h;rw[hE.step s hs];exact ZdY hs _
def ZX (ans:List Int):List Mach→St→Option Int × St
 | [],s=>(none,s)
 | x::r,s=>match stepM x ans s with
  | (some t,s')=>(some t,s')
  | (none,s')=>ZX ans r s'
theorem VR (u v:List Mach):∀ s:St,ZX ans (u++v) s=match ZX ans u s with
  | (some t,s')=>(some t,s')
  | (none,s')=>ZX ans v s':=by
 induction u with
 | nil=>intro s;rfl
 | cons x u ih =>
  intro s;rw[List.cons_append];show (match stepM x ans s with
   | (some t,s')=>(some t,s')
   | (none,s')=>ZX ans (u++v) s')=match (match stepM x ans s with
   | (some t,s')=>(some t,s')
   | (none,s')=>ZX ans u s') with
   | (some t,s')=>(some t,s')
   | (none,s')=>ZX ans v s'
  cases h:stepM x ans s with
  | mk o s' =>
   cases o with
   | some t=>rfl
   | none=>exact ih s'
end
section
variable {p q:Z2} {ans:List Int}
theorem ZaN (f:Nat) (s:St) (b:ZD) (x:PlV) (r:List PlV):ZA p ans (f+1) s b (x::r)=match stepM x.m ans s with
  | (some t,s')=>⟨2,t,s',f⟩
  | (none,s')=>ZA p ans f s' b r:=rfl
theorem WK:∀ (f:Nat) (s:St) (b:ZD) (l:List PlV),(ZA p ans f s b l).e≠3→∀ d,ZA p ans (f+d) s b l={ ZA p ans f s b l with left:=(ZA p ans f s b l).left+d }
 | 0,s,b,l,h,_=>absurd rfl (by unfold ZA at h;exact h)
 | f+1,s,b,x::r,h,d=>by
  rw[show f+1+d=(f+d)+1 from by omega]
  unfold ZA at h ⊢
  cases e:stepM x.m ans s with
  | mk o s' =>
   rw[e]at h
   cases o with
   | some t=>rfl
   | none=>exact WK f s' b r h d
 | f+1,s,b,[],h,d=>by
  rw[show f+1+d=(f+d)+1 from by omega]
  unfold ZA at h ⊢
  by_cases h8:b.fin.op=8
  ·rw[if_pos h8,if_pos h8]
  ·rw[if_neg h8]at h
   rw[if_neg h8,if_neg h8]
   by_cases h7:b.fin.op=7
   ·rw[if_pos h7,if_pos h7]
   ·rw[if_neg h7]at h
    rw[if_neg h7,if_neg h7]
    cases e:p.blocks[(b.fin.to.getD (goes b.fin s.regs) 0).toNat]? with
    | none=>rfl
    | some b' =>
     rw[e]at h
     exact WK f s b' b'.ins h d
theorem ZbE {f g:Nat} {s : St} {b : ZD} {l : List PlV} (hf:(ZA p ans f s b l).e≠3) (hg:(ZA p ans g s b l).e≠3):(ZA p ans f s b l).e=(ZA p ans g s b l).e∧(ZA p ans f s b l).v=(ZA p ans g s b l).v∧(ZA p ans f s b l).s=(ZA p ans g s b l).s:=by
 rcases Nat.le_total f g with h|h
 ·obtain⟨d,rfl⟩:=Nat.exists_eq_add_of_le h;rw[WK f s b l hf d];exact⟨rfl,rfl,rfl⟩
 ·obtain⟨d,rfl⟩:=Nat.exists_eq_add_of_le h;rw[WK g s b l hg d];exact⟨rfl,rfl,rfl⟩
theorem Qe:∀ (l:List PlV) (f:Nat) (s:St) (b:ZD),(ZA p ans f s b l).e≠3 →
  match ZX ans (l.map fun x=>x.m) s with
  | (some t,s')=>(ZA p ans f s b l).e=2∧(ZA p ans f s b l).v=t∧(ZA p ans f s b l).s=s'
  | (none,s')=>∃ g,f=g+l.length∧ZA p ans f s b l=ZA p ans g s' b []
 | [],f,s,b,_=>⟨f,rfl,rfl⟩
 | x::r,0,s,b,h=>absurd rfl (by unfold ZA at h;exact h)
 | x::r,f+1,s,b,h=>by
  rw[List.map_cons]
  unfold ZX
  rw[ZaN]at h ⊢
  cases e:stepM x.m ans s with
  | mk o s' =>
   rw[e]at h
   cases o with
   | some t=>exact⟨rfl,rfl,rfl⟩
   | none =>
    dsimp only at h ⊢
    have h1:=Qe r f s' b h
    cases e2:ZX ans (r.map fun x=>x.m) s' with
    | mk o2 s2 =>
     rw[e2]at h1
     cases o2 with
     | some t=>exact h1
     | none =>
      obtain⟨g,h2,h3⟩:=h1
      exact⟨g,by rw[h2,List.length_cons];omega,h3⟩
theorem Kg:∀ (l:List PlV) (s:St) (b:ZD) {t : Int} {s':St},ZX ans (l.map fun x=>x.m) s=(some t,s')→∃ f,(ZA p ans f s b l).e=2∧(ZA p ans f s b l).v=t∧(ZA p ans f s b l).s=s'
 | [],s,b,t,s',h=>by unfold List.map ZX at h;cases h
 | x::r,s,b,t,s',h=>by
  rw[List.map_cons]at h
  unfold ZX at h
  cases e:stepM x.m ans s with
  | mk o s1 =>
   rw[e]at h
   cases o with
   | some t1 =>
    cases h
    refine⟨1,?_⟩
    unfold ZA
    rw[e]
    exact⟨rfl,rfl,rfl⟩
   | none =>
    obtain⟨f,hf⟩:=Kg r s1 b h
    refine⟨f+1,?_⟩
    unfold ZA
    rw[e]
    exact hf
theorem VZ:∀ (l:List PlV) (s:St) (b:ZD) {s':St},ZX ans (l.map fun x=>x.m) s=(none,s')→∀ g,ZA p ans (g+l.length) s b l=ZA p ans g s' b []
 | [],s,b,s',h,g=>by unfold List.map ZX at h;cases h;rfl
 | x::r,s,b,s',h,g=>by
  rw[List.map_cons]at h
  unfold ZX at h
  rw[List.length_cons,show g+(r.length+1)=(g+r.length)+1 from rfl]
  cases e:stepM x.m ans s with
  | mk o s1 =>
   rw[e]at h
   cases o with
   | some t1=>cases h
   | none =>
    have h2:=VZ r s1 b h g
    rw[←h2]
    conv=>lhs;unfold ZA
    rw[e]
end
theorem Xz (a b:Yb):Wi a b=true↔a.op=b.op∧a.a=b.a∧a.b=b.b∧a.imm=b.imm∧a.to=b.to:=by
 unfold Wi Zdk;simp only[Bool.and_eq_true,beq_iff_eq,decide_eq_true_eq]
def ZfC (a b:QK):Prop:=a.e=b.e∧a.v=b.v∧a.s.mem=b.s.mem∧a.s.calls=b.s.calls
section
variable {p q:Z2} {ans:List Int} {S : Nat}
end
def KC (a b:VV):Prop:=a.e=b.e∧a.v=b.v∧a.mem=b.mem∧a.calls=b.calls
theorem ZeJ (n:Int):bits .and .i64 n 65535=n % 65536:=by
 have h:(BitVec.ofInt 64 65535).toNat=2 ^ 16-1:=kS
 have key:(BitVec.ofInt 64 n &&& BitVec.ofInt 64 65535).toNat=(n % ((2 ^ 64:Nat):Int)).toNat % 2 ^ 16:=by
  rw[BitVec.toNat_and,BitVec.toNat_ofInt,h,Nat.and_two_pow_sub_one_eq_mod]
 show IntKind.i64.wrap ((BitVec.ofInt 64 n &&& BitVec.ofInt 64 65535).toNat:Nat)=n % 65536
 rw[key,IntKind.wrap_i64];omega
theorem XR.turn {S : Nat→Prop} {w w':World} {base:Nat} {v : Value} {o : VV} (h:XR w base v o) (t:Turn S w w') (hs:∀ q,base≤q→¬ S q):XR w' base v o:=by
 obtain⟨mv,cv,e,hm,hc,ho⟩:=h;exact⟨mv,cv,e,hm.turn t fun q hq=>hs q (ho q hq),hc.turn t hs,ho⟩
theorem XR.evs {w : World} {base:Nat} {o : VV} {e v st:Int} {a g:Value} (h:XR w base (.agg #[.int .i64 e,.int .i32 v,a,g,.int .i64 st]) o):Yy base w g o.calls∧e=o.e∧v=o.v∧st=o.steps:=by
 obtain⟨mv,cv,h1,_,h2,_⟩:=h
 cases h1
 exact⟨h2,rfl,rfl,rfl⟩
theorem Zfo {α:Type} {l : List α} {k : Nat} {x d:α} (h:l[k]? = some x):l.getD k d=x:=by rw[List.getD_eq_getElem?_getD,h];rfl
theorem Zag (v1 v2:Value) (l:List Int) (w:World) (h1:WR w v1 l) (h2:WR w v2 l) (hm:l.length≤9223372036854775807):Calls Tryz.prog 37 #[v1,v2] w (TellsS true w):=by
 obtain⟨a1,c1,rfl,g1⟩:=h1;obtain⟨a2,c2,rfl,g2⟩:=h2;have H1:=hid g1;have H2:=hid g2;obtain⟨n1,hc⟩:∃ n,l.length=n:=⟨_,rfl⟩
 have he:=hid hc;rw[hc]at hm ⊢;clear g1 g2 hc;go_enter Tryz.func37,Tryz.ntmps37
 have hg:((n1:Int) != (n1:Int))=false:=by simp
 go_wp2
 go_loopw [13] (fun i wr=>∃ k:Nat,k≤n1∧i=.int .i64 k∧Since w wr) (fun i _=>n1-(intOf i).toNat)
 case atStart=>exact⟨0,Nat.zero_le _,rfl,.refl _⟩
 case round =>
  obtain⟨k,hk,rfl,hs⟩:=hrel;have HS:=hid hs;by_cases hh:k<n1
  ·obtain⟨x,hx⟩:∃ x,l[k]? = some x:=⟨_,List.getElem?_eq_getElem (by have:=he.out;omega)⟩
   obtain⟨B,off,rfl,hB,hb⟩:=H1.out (by intro e;have:=he.out;rw[e]at this;simp at this;omega);obtain⟨B2,off2,rfl,hd,ha⟩:=H2.out (by intro e;have:=he.out;rw[e]at this;simp at this;omega);have k1:=(hs.cell (p:=⟨B,off+k,none⟩) hB).trans (hb k x hx);have k2:=(hs.cell (p:=⟨B2,off2+k,none⟩) hd).trans (ha k x hx);have b1:=Nat.lt_of_lt_of_le hB hs.size;have b2:=Nat.lt_of_lt_of_le hd hs.size;clear hb ha hs hB hd hx;have hf:(x != x)=false:=by simp
   exact qr
  ·obtain rfl:k=n1:=kT
   exact jM
theorem Zbe (x:Int) (v1 v2:Value) (l:List Int) (w:World) (h1:WR w v1 l) (h2:WR w v2 l) (hm:l.length≤9223372036854775807):Calls Tryz.prog 39 #[.agg #[.int .i32 x,v1],.agg #[.int .i32 x,v2]] w (TellsS true w):=by
 have hq:=fun w1 (s:Since w w1)=>Zag v1 v2 l w1 (h1.keep s) (h2.keep s) hm
 obtain⟨a1,c1,rfl,g1⟩:=h1;obtain⟨a2,c2,rfl,g2⟩:=h2;have HQ:=hid hq;have hc:(x==x)=true:=by simp
 clear g1 g2 hq;go_enter Tryz.func39,Tryz.ntmps39
 go_wp2_with fail
 refine (HQ.out _ (((Since.refl _).alloc _).alloc _)).mono ?_;rintro e w1 ⟨rfl,ha⟩;have hb:=hid ((((Since.refl w).alloc _).alloc _).trans ha);clear ha;go_wp2
 go_ret
 exact⟨rfl,hb.out⟩
structure KM (w:World) (c1 c4:Option Addr) (n:Nat):Prop where
 at_:∀ k,k<n→∃ g1 g2 x y1 y2,c1=some ⟨g1,0,none⟩∧c4=some ⟨g2,0,none⟩∧g1<w.heap.size∧g2<w.heap.size∧(w.cell? ⟨g1,k*2,none⟩=some (.int .i32 x)∧w.cell? ⟨g1,k*2+1,none⟩=some y1)∧(w.cell? ⟨g2,k*2,none⟩=some (.int .i32 x)∧w.cell? ⟨g2,k*2+1,none⟩=some y2)∧((∃ p m q,y1=.slice p m q)∧(∃ p m q,y2=.slice p m q)∧∀ w1,Since w w1→Calls Tryz.prog 39 #[.agg #[.int .i32 x,y1],.agg #[.int .i32 x,y2]] w1 (TellsS true w1))
theorem KM.keep {w w':World} {c1 c4:Option Addr} {n : Nat} (h:KM w c1 c4 n) (s:Since w w'):KM w' c1 c4 n:=⟨fun k hk=>by
 obtain⟨g1,g2,x,y1,y2,e1,e2,l1,l2,⟨q1,q2⟩,⟨q3,q4⟩,s1,s2,hc⟩:=h.at_ k hk
 exact⟨g1,g2,x,y1,y2,e1,e2,Nat.lt_of_lt_of_le l1 s.size,Nat.lt_of_lt_of_le l2 s.size,⟨(s.cell (p:=⟨g1,k*2,none⟩) l1).trans q1,(s.cell (p:=⟨g1,k*2+1,none⟩) l1).trans q2⟩,⟨(s.cell (p:=⟨g2,k*2,none⟩) l2).trans q3,(s.cell (p:=⟨g2,k*2+1,none⟩) l2).trans q4⟩,s1,s2,fun w1 h1=>hc w1 (s.trans h1)⟩⟩
theorem Zew {w : World} {b1 b2:Nat} {ca cb:Value} {calls:List (Int × List Int)} (ha:Yy b1 w ca calls) (hb:Yy b2 w cb calls):∃ a1 p1 a2 p2,ca=.slice a1 calls.length p1∧cb=.slice a2 calls.length p2∧KM w a1 a2 calls.length∧calls.length≤9223372036854775807:=by
 obtain⟨ea,oa,maa,xa⟩:=ha;obtain⟨eb,ob,mbb,xb⟩:=hb;obtain⟨c1,c3,rfl⟩:=OwnRow.shape oa;obtain⟨c4,c6,rfl⟩:=OwnRow.shape ob;have he:ea.length=calls.length:=by rw[←maa,List.length_map]
 have hg:eb.length=calls.length:=by rw[←mbb,List.length_map]
 refine⟨c1,c3,c4,c6,by rw[he],by rw[hg],⟨fun k hk=>?_⟩,?_⟩
 ·have h1:ea[k]? = some ea[k]:=List.getElem?_eq_getElem kT;have h2:eb[k]? = some eb[k]:=List.getElem?_eq_getElem kT;generalize ea[k]=x1 at h1;generalize eb[k]=x2 at h2;have e:(x1.callee,x1.args)=(x2.callee,x2.args):=by
   have:=congrArg (fun l=>l[k]?) (maa.trans mbb.symm);simp only[List.getElem?_map,h1,h2,Option.map_some,Option.some.injEq]at this;exact this
  have ee:=Prod.mk.inj e;have hc:=xa x1 (List.mem_of_getElem? h1);have hd:=xb x2 (List.mem_of_getElem? h2);have hf:x1.args.length≤9223372036854775807:=by have:=(ZF hc).len;unfold maxLen at this;omega
  rcases OwnRow.cells Wr oa with ⟨_,h0⟩|⟨g1,p1,v1,_,_,_,l1,r1⟩
  ·rw[h0]at h1;cases h1
  rcases OwnRow.cells Wr ob with ⟨_,h0⟩|⟨g2,p2,v2,_,_,_,l2,r2⟩
  ·rw[h0]at h2;cases h2
  cases v1
  cases v2
  have q1:=r1 k 0 x1 h1 kS;have q2:=r1 k 1 x1 h1 kS;have q3:=r2 k 0 x2 h2 kS;have q4:=r2 k 1 x2 h2 kS;obtain⟨p3,p4,s1⟩:=Zf hc;obtain⟨p5,p6,s2⟩:=Zf hd;refine⟨g1,g2,x1.callee,x1.argv,x2.argv,rfl,rfl,l1,l2,⟨q1,q2⟩,⟨by rw[ee.1];exact q3,q4⟩,⟨_,_,_,s1⟩,⟨_,_,_,s2⟩,fun w1 hs=>Zbe x1.callee _ _ x1.args w1 (Kk ((ZF hc).keep hs)) (Kk (by rw[ee.2];exact (ZF hd).keep hs)) hf⟩
 ·rcases OwnRow.cells Wr oa with ⟨_,h0⟩|⟨_,cap,_,h1,h2,_⟩
  ·rw[←he,h0];decide
  ·unfold maxLen at h2;omega
theorem Zbf (c1 c4:Option Addr) (p1 p4 n:Nat) (w:World) (h:KM w c1 c4 n) (hm:n≤9223372036854775807):Calls Tryz.prog 38 #[.slice c1 n p1,.slice c4 n p4,.func (.func 39) #[] #[]] w (TellsS true w):=by
 have H:=hid h;clear h;go_enter Tryz.func38,Tryz.ntmps38
 have hf:((n:Int) != (n:Int))=false:=by simp
 go_wp2
 go_loopw [17] (fun i wr=>∃ k:Nat,k≤n∧i=.int .i64 k∧Since w wr) (fun i _=>n-(intOf i).toNat)
 case atStart=>exact⟨0,Nat.zero_le _,rfl,.refl _⟩
 case round =>
  obtain⟨k,hk,rfl,hs⟩:=hrel;have HS:=hid hs;by_cases hd:k<n
  ·obtain⟨g1,g2,x,y1,y2,rfl,rfl,l1,l2,⟨q1,q2⟩,⟨q3,q4⟩,⟨e1,e2,e3,rfl⟩,⟨f1,f2,f3,rfl⟩,ha⟩:=H.out.at_ k hd;have k1:=(hs.cell (p:=⟨g1,k*2,none⟩) l1).trans q1;have k2:=(hs.cell (p:=⟨g1,k*2+1,none⟩) l1).trans q2;have k3:=(hs.cell (p:=⟨g2,k*2,none⟩) l2).trans q3;have k4:=(hs.cell (p:=⟨g2,k*2+1,none⟩) l2).trans q4;have b1:=Nat.lt_of_lt_of_le l1 hs.size;have b2:=Nat.lt_of_lt_of_le l2 hs.size;have hb:=hid ha;clear ha q1 q2 q3 q4 l1 l2 hs;go_wp2_with fail
   refine (hb.out _ (HS.out.trans (((Since.refl _).alloc _).alloc _))).mono ?_;rintro e w1 ⟨rfl,hc⟩;have he:=hid (HS.out.trans ((((Since.refl wr).alloc _).alloc _).trans hc));clear hc;go_wp2
   go_roundw
   case rel=>exact⟨k+1,kT,by go_num,he.out⟩
   case measure=>simp[intOf];omega
  ·obtain rfl:k=n:=kT
   exact jM
theorem ZbB (A B:VV) (va vb:Value) (b1 b2:Nat) (w:World) (ha:XR w b1 va A) (hb:XR w b2 vb B) (h:KC A B):Calls Tryz.prog 14 #[va,vb] w (TellsS true w):=by
 obtain⟨ae,av,am,ac,asn⟩:=A;obtain⟨be,bv,bm,bc,bs⟩:=B;obtain⟨h1,h2,h3,h4⟩:=h;dsimp only at h1 h2 h3 h4;subst h1 h2 h3 h4;obtain⟨mva,cva,rfl,ma,ea,_⟩:=ha;obtain⟨mvb,cvb,rfl,mb,eb,_⟩:=hb;obtain⟨a1,a3,rfl,hk⟩:=ma.shape;obtain⟨a4,a6,rfl,_⟩:=mb.shape;obtain⟨c1,p1,c4,p4,rfl,rfl,hf,hg⟩:=Zew ea eb;dsimp only at hk hg;have hw:=fun w1 (h:Since w w1)=>Zag (.slice a1 am.length a3) (.slice a4 am.length a6) am w1 ((Qo ma).keep h) ((Qo mb).keep h) kT
 have he:=fun w1 (h:Since w w1)=>Zbf c1 c4 p1 p4 ac.length w1 (hf.keep h) hg
 generalize am.length=m at *;generalize ac.length=n at *;have HW:=hid hw;have HE:=hid he;have hn:(ae==ae)=true:=by simp
 have hm:(av==av)=true:=by simp
 clear hw he ma mb ea eb hf;go_enter Tryz.func14,Tryz.ntmps14
 go_wp2_with fail
 refine (HW.out _ (((Since.refl _).alloc _).alloc _)).mono ?_;rintro e w1 ⟨rfl,hc⟩;have hh:=(HeapIs.new w #[.int .i64 ae,.int .i32 av,.slice a1 m a3,.slice c1 n p1,.int .i64 asn] 47).keep (((Since.refl _).alloc _).trans hc);have hd:=(HeapIs.new (w.alloc (.cells #[.int .i64 ae,.int .i32 av,.slice a1 m a3,.slice c1 n p1,.int .i64 asn] 47)) #[.int .i64 ae,.int .i32 av,.slice a4 m a6,.slice c4 n p4,.int .i64 bs] 47).keep hc;rw[show (w.alloc (.cells #[.int .i64 ae,.int .i32 av,.slice a1 m a3,.slice c1 n p1,.int .i64 asn] 47)).heap.size=w.heap.size+1 from by simp]at hd;have hj:=hid ((((Since.refl w).alloc _).alloc _).trans hc);have k1:=hh.cell 3;have k2:=hd.cell 3;have k3:=hh.lt;have k4:=hd.lt;clear hh hd hc;go_wp2_with fail
 refine (HE.out _ hj.out).mono ?_;rintro e w2 ⟨rfl,hi⟩;have hl:=hid (hj.out.trans hi);clear hi k1 k2 k3 k4;go_wp2
 go_ret
 exact⟨rfl,hl.out⟩
open Go.RowKit Go.ChangeShapes Go.WideShapes
theorem J0:∀ (l:List ZD) (b:Nat) (y:ZD) (ins:List PlV) (v:Value),l[b]? = some y→(l.flatMap blcells).set (b*6) v=(l.set b ⟨ins,v,y.fin⟩).flatMap blcells
 | [],b,y,ins,v,h=>by cases h
 | a::r,0,y,ins,v,h=>by
  cases h
  rw[List.flatMap_cons,List.set_cons_zero,List.flatMap_cons]
  simp only[blcells,List.cons_append,List.nil_append,Nat.zero_mul,List.set_cons_zero]
 | a::r,b+1,y,ins,v,h=>by
  rw[List.flatMap_cons,List.set_append_right _ _ (by rw[YE];omega),YE,show (b+1)*6-6=b*6 from by omega,J0 r b y ins v h]
  rfl
theorem ZaO {B : Nat} {w : World} {g cap n:Nat} {l : List ZD} {b : Nat} {y : ZD} (ins:List PlV) (v:Value) (h:OwnRow blcells 6 34 B w (.slice (some ⟨g,0,none⟩) n cap) l) (hb:l[b]? = some y) :
  OwnRow blcells 6 34 B (w.setCell ⟨g,b*6,none⟩ v) (.slice (some ⟨g,0,none⟩) n cap) (l.set b ⟨ins,v,y.fin⟩):=by
 obtain⟨a',c',e⟩:=Zf (show w.ownsRow _ _ _ _ _ _ from h);have hn:n=l.length:=by cases e;rfl
 subst hn;have h1:=YS (show w.ownsRow _ _ _ _ _ _ from h) (b*6) v;rw[J0 l b y ins v hb]at h1;unfold OwnRow;rw[List.length_set];exact h1
section
variable {w0 w w':World} {B r4 r5 r6 ob xb:Nat} {O X9 c4 c5 c6:Array Value} {lv bv:Value} {l : List PlV} {bl:List ZD}
end
end Go.Proofs.YtimpddecdodddaaGreat
