import Derived.Test.YtkpbmbhejpmboaaGreatPkS22
namespace Go.Proofs.YtkpbmbhejpmboaaGreat
open Go.RowKit
set_option linter.unusedVariables false
structure PGood (S:Int) (m:Mach):Prop where
 shape:shapeB m=true
 regs:YU 4 (YI m)=false
 slot:Xz m=true→0≤m.imm∧m.imm<S
 imm:Vv m=true
 fine:Yr m
theorem KU {k : Int} {l : List Int} (h:∀ r∈l,0≤r∧r<k):YU k l=false:=by
 unfold YU;rw[List.any_eq_false];intro r hr;have:=h r hr;simp only[Bool.or_eq_true,decide_eq_true_eq];omega
structure Zcu (n:Int) (e:Yg):Prop where
 fits:Xv e=true
 need:Y5 e 4=false
 goals:∀ t∈e.to,1≤t∧t<n
def W0 (op reg n:Int):Mach:=if op=31 then { op:=op,d:=0,e:=0,a:=reg,b:=0,c:=0,imm:=n,args:=[] } else { op:=op,d:=reg,e:=0,a:=0,b:=0,c:=0,imm:=n,args:=[] }
theorem Zbg {op reg n S:Int} (ho:op=30∨op=31) (hr:0≤reg∧reg<4) (hn:0≤n∧n<S) (hS:S≤16384):PGood S (W0 op reg n):=by
 rcases ho with rfl|rfl;iterate 2
  ·refine⟨rfl,KU fun r h=>?_,fun _=>hn,rfl,?_,?_,?_⟩
   ·have h:r∈[reg]:=h;rw[List.mem_singleton.1 h];exact hr
   ·show (-2147483648:Int)≤n;omega
   ·show n≤2147483647;omega
   ·show (0:Nat)≤1000;decide
def nvM (i:Mach):Mach:={ op:=i.op,d:=0,e:=if i.op=29 then 1 else 0,a:=0,b:=if i.op=28 then 0 else if 1<(takes7 i).length then 1 else 0,c:=if i.op=28 then 0 else if 2<(takes7 i).length then 2 else 0,imm:=i.imm,args:=if i.op=28 then (List.range (takes7 i).length).map (fun (t:Nat)=>(t:Int)) else [] }
theorem KV (n:Nat):∀ s,Xg ((List.range' s n).map fun (t:Nat)=>(t:Int)) s=true:=by
 induction n with
 | zero=>intro s;rfl
 | succ n ih =>
  intro s;rw[List.range'_succ,List.map_cons];unfold Xg;rw[ih (s+1)];simp
theorem XV {P : Int→Prop} {a r:Int} (ha:P a) (h:r∈[a]):P r:=by
 rw[List.mem_singleton.1 h];exact ha
theorem Jb {P : Int→Prop} {a b r:Int} (ha:P a) (hb:P b) (h:r∈[a,b]):P r:=by
 rcases List.mem_cons.1 h with e|h
 ·rw[e];exact ha
 ·exact XV hb h
theorem Za9 {P : Int→Prop} {a b c r:Int} (ha:P a) (hb:P b) (hc:P c) (h:r∈[a,b,c]):P r:=by
 rcases List.mem_cons.1 h with e|h
 ·rw[e];exact ha
 ·exact Jb hb hc h
theorem VF {m : Mach} {P : Int→Prop} (ha:P m.a) (hb:P m.b) (hc:P m.c) (hl:∀ r∈m.args,P r) (hd:m.op≠30):∀ r∈takes m,P r:=by
 intro r hr;unfold takes takes7 at hr;rw[if_neg hd]at hr;repeat' split at hr
 all_goals first | exact hl r hr | exact Za9 ha hb hc hr | exact Jb ha hb hr | exact XV ha hr | exact XV hb hr | exact XV hc hr | cases hr
theorem VO {m : Mach} {P : Int→Prop} (ha:P m.a) (hb:P m.b) (hd:P m.d) (he:P m.e) (hc:m.op≠31):∀ r∈makes m,P r:=by
 intro r hr;unfold makes makes7 at hr;rw[if_neg hc]at hr;repeat' split at hr
 all_goals first | exact Jb hd he hr | exact Jb ha hb hr | exact XV hd hr | exact XV ha hr | exact XV hb hr | exact XV he hr | cases hr
theorem MGood.ops {i : Mach} (h:MGood i):(1≤i.op∧i.op≤29)∧i.op≠2:=by
 have:=h.op;omega
theorem Vp {i : Mach} (h:MGood i):(takes7 i).length≤4:=by
 have:=h.few;unfold takes7;repeat' split
 all_goals first | exact this | (simp only[List.length_cons,List.length_nil];omega)
theorem JR {i : Mach}:(makes7 i).length≤2:=by
 unfold makes7;repeat' split
 all_goals simp only[List.length_cons,List.length_nil];omega
theorem Kw {i : Mach} (h:MGood i):∀ r∈takes7 i,0≤r∧r<10000:=by
 have h1:=h.ops;have h2:=VF (m:=i) (P:=fun r=>0≤r∧r<10000) h.a h.b h.c h.args (by omega);unfold takes at h2;rw[if_neg h1.2,if_neg (by omega)]at h2;exact h2
theorem KM {i : Mach} (h:MGood i):∀ r∈makes7 i,0≤r∧r<10000:=by
 have h1:=h.ops;have h2:=VO (m:=i) (P:=fun r=>0≤r∧r<10000) h.a h.b h.d h.e (by omega);unfold makes at h2;rw[if_neg h1.2,if_neg (by omega)]at h2;exact h2
theorem ZcE {i : Mach} (h:MGood i) (S:Int):PGood S (nvM i):=by
 have h1:=h.ops;have h4:=Vp h;have hg:∀ r∈(nvM i).args,0≤r∧r<4:=by
  intro r hr;change r∈(if i.op=28 then (List.range (takes7 i).length).map (fun (t:Nat)=>(t:Int)) else []) at hr
  split at hr
  ·obtain⟨t,ht,rfl⟩:=List.mem_map.1 hr;have:=List.mem_range.1 ht;omega
  ·cases hr
 have hb:0≤(nvM i).b∧(nvM i).b<4:=by
  show 0≤(if i.op=28 then (0:Int) else if 1<(takes7 i).length then 1 else 0)∧(if i.op=28 then (0:Int) else if 1<(takes7 i).length then 1 else 0)<4
  repeat' split
  all_goals decide
 have hc:0≤(nvM i).c∧(nvM i).c<4:=by
  show 0≤(if i.op=28 then (0:Int) else if 2<(takes7 i).length then 2 else 0)∧(if i.op=28 then (0:Int) else if 2<(takes7 i).length then 2 else 0)<4
  repeat' split
  all_goals decide
 have he:0≤(nvM i).e∧(nvM i).e<4:=by
  show 0≤(if i.op=29 then (1:Int) else 0)∧(if i.op=29 then (1:Int) else 0)<4
  split
  all_goals decide
 have ha:0≤(nvM i).a∧(nvM i).a<4:=by show (0:Int)≤0∧(0:Int)<4;decide
 have hd:0≤(nvM i).d∧(nvM i).d<4:=by show (0:Int)≤0∧(0:Int)<4;decide
 have hf:(nvM i).op=i.op:=rfl;have hh:(nvM i).imm=i.imm:=rfl;refine⟨?_,KU fun r hr=>?_,fun hs=>?_,?_,?_,?_,?_⟩
 ·unfold shapeB;rw[hf];split
  ·rename_i e
   rw[Bool.and_eq_true,Bool.and_eq_true];have hA:(nvM i).args=(List.range (takes7 i).length).map (fun (t:Nat)=>(t:Int)):=if_pos e
   rw[hA];refine⟨⟨?_,?_⟩,rfl⟩
   ·rw[List.range_eq_range'];exact KV _ 0
   ·rw[decide_eq_true_eq,List.length_map,List.length_range];exact h4
  ·split
   ·rename_i e
    rw[Bool.and_eq_true];refine⟨rfl,?_⟩;show ((if i.op=29 then (1:Int) else 0)==1)=true
    rw[if_pos e];rfl
   ·rw[Bool.and_eq_true,decide_eq_true_eq,decide_eq_true_eq];omega
 ·unfold YI at hr;rw[hf,if_neg (by omega)]at hr;rcases List.mem_append.1 hr with hr|hr
  ·exact VF (P:=fun r=>0≤r∧r<4) ha hb hc hg (by rw[hf];omega) r hr
  ·exact VO (P:=fun r=>0≤r∧r<4) ha hb hd he (by rw[hf];omega) r hr
 ·exfalso
  unfold Xz at hs;rw[hf,Bool.or_eq_true,beq_iff_eq,beq_iff_eq]at hs;omega
 ·have ho:=h.op;unfold Vv;rw[hf,hh];repeat' split
  all_goals first | rfl | (rw[Bool.and_eq_true,decide_eq_true_eq,decide_eq_true_eq];omega)
 ·exact h.imm.1
 ·exact h.imm.2
 ·show (if i.op=28 then (List.range (takes7 i).length).map (fun (t:Nat)=>(t:Int)) else []).length≤1000
  split
  ·rw[List.length_map,List.length_range];omega
  ·decide
open Go.RowKit Go.ChangeShapes Go.WideShapes
theorem ZaY {P : Program} {w : World} {r : Reach} {base:Nat} {t e:TypeId} {v : Value} (ht:P.underlying t=some (.slice e)) (h:Value.okWide P w r base t v):∀ q,v.ownBlock=some q→q<w.heap.size:=by
 obtain⟨a,len,cap,rfl⟩:=okWide_slice ht h;intro q hq
 cases a with
 | none=>cases hq
 | some a =>
  have h2:len≤cap∧(cap:Int)≤IntKind.i64.max∧w.has P r base a e cap:=by
   simp only[Value.okWide,ht,Cell.okWide]at h;simpa [Cell.ok,ht]using h
  obtain⟨_,_,_,_,row,cells,hs,_⟩:=h2;obtain rfl:a.block=q:=Option.some.inj hq;unfold World.shape? at hs;by_cases ha:a.block<w.heap.size
  ·exact ha
  ·rw[Array.getElem?_eq_none (by omega)]at hs
   cases hs
end Go.Proofs.YtkpbmbhejpmboaaGreat
