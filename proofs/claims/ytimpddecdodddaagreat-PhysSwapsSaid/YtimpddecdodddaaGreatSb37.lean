import Derived.Test.YtimpddecdodddaaGreatSb22
namespace Go.Proofs.YtimpddecdodddaaGreat
open Go.RowKit
set_option linter.unusedVariables false
structure PGood (S:Int) (m:Mach):Prop where
 shape:shapeB m=true
 regs:YC 4 (regsOf m)=false
 slot:Y2 m=true→0≤m.imm∧m.imm<S
 imm:VP m=true
 fine:Yw m
theorem Wx {k : Int} {l : List Int} (h:∀ r∈l,0≤r∧r<k):YC k l=false:=by
 unfold YC;rw[List.any_eq_false];intro r hr;have:=h r hr;simp only[Bool.or_eq_true,decide_eq_true_eq];omega
theorem Zau {k k':Int} {l : List Int} (h:YC k l=false) (hk:k≤k'):YC k' l=false:=by
 refine Wx fun r hr=>?_
 unfold YC at h;rw[List.any_eq_false]at h;have:=h r hr;simp only[Bool.or_eq_true,decide_eq_true_eq]at this;omega
theorem PGood.ins {S S' k:Int} {m : Mach} (h:PGood S m) (hk:4≤k) (hS:S≤S'):Yv m k S'=0:=by
 unfold Yv;rw[if_neg (by rw[h.shape];decide),if_neg (by rw[Zau h.regs hk];decide),if_neg ?_,if_neg (by rw[h.imm];decide)];intro h1;rw[Bool.and_eq_true,Bool.or_eq_true,decide_eq_true_eq,decide_eq_true_eq]at h1;have:=h.slot h1.1;omega
structure Vp (n:Int) (e:Yb):Prop where
 fits:XC e=true
 need:Y5 e 4=false
 goals:∀ t∈e.to,1≤t∧t<n
theorem Vp.fin {n k:Int} {e : Yb} (h:Vp n e) (hk:4≤k):endE e k n=0:=by
 unfold endE;rw[if_neg (by rw[h.fits];decide),if_neg ?_,if_neg ?_]
 ·unfold Ws;rw[List.any_eq_true];rintro⟨t,ht,h1⟩;have:=h.goals t ht;simp only[Bool.or_eq_true,decide_eq_true_eq]at h1;omega
 ·have h2:=h.need;unfold Y5 at h2 ⊢;rw[List.any_eq_false]at h2;rw[List.any_eq_true];rintro⟨r,hr,h1⟩;have:=h2 r hr;simp only[Bool.or_eq_true,Bool.and_eq_true,beq_iff_eq,decide_eq_true_eq]at h1 this;omega
theorem WX {p : Z2} (hp:0≤p.params∧p.params≤4) (hk:4≤p.k∧p.k≤16) (hs:0≤p.slots∧p.slots≤16384) (hb:1≤p.blocks.length∧p.blocks.length≤512) (ht:ptotal p.blocks≤65536)
  (hi:∀ b∈p.blocks,(∀ x∈b.ins,PGood p.slots x.m)∧Vp p.blocks.length b.fin):rightB p=true:=by
 have h0:Vk p=0:=by
  unfold Vk;rw[if_neg kT,if_neg kT,if_neg kT]
 unfold rightB funcE;rw[if_pos h0,Va 0 fun b hb=>?_]
 ·rfl
 ·unfold X0;rw[W6 0 fun x hx=>((hi b hb).1 x hx).ins hk.1 (Int.le_refl _)];dsimp only;rw[if_pos ((hi b hb).2.fin hk.1)]
def Vj (op reg n:Int):Mach:=if op=31 then { op:=op,d:=0,e:=0,a:=reg,b:=0,c:=0,imm:=n,args:=[] } else { op:=op,d:=reg,e:=0,a:=0,b:=0,c:=0,imm:=n,args:=[] }
theorem Jd {op reg n S:Int} (ho:op=30∨op=31) (hr:0≤reg∧reg<4) (hn:0≤n∧n<S) (hS:S≤16384):PGood S (Vj op reg n):=by
 rcases ho with rfl|rfl;iterate 2
  ·refine⟨rfl,Wx fun r h=>?_,fun _=>hn,rfl,?_,?_,?_⟩
   ·have h:r∈[reg]:=h;rw[List.mem_singleton.1 h];exact hr
   ·show (-2147483648:Int)≤n;omega
   ·show n≤2147483647;omega
   ·show (0:Nat)≤1000;decide
def nvM (i:Mach):Mach:={ op:=i.op,d:=0,e:=if i.op=29 then 1 else 0,a:=0,b:=if i.op=28 then 0 else if 1<(takes7 i).length then 1 else 0,c:=if i.op=28 then 0 else if 2<(takes7 i).length then 2 else 0,imm:=i.imm,args:=if i.op=28 then (List.range (takes7 i).length).map (fun (t:Nat)=>(t:Int)) else [] }
theorem Qy (n:Nat):∀ s,Xm ((List.range' s n).map fun (t:Nat)=>(t:Int)) s=true:=by
 induction n with
 | zero=>intro s;rfl
 | succ n ih =>
  intro s;rw[List.range'_succ,List.map_cons];unfold Xm;rw[ih (s+1)];simp
theorem X6 {P : Int→Prop} {a r:Int} (ha:P a) (h:r∈[a]):P r:=by
 rw[List.mem_singleton.1 h];exact ha
theorem Jy {P : Int→Prop} {a b r:Int} (ha:P a) (hb:P b) (h:r∈[a,b]):P r:=by
 rcases List.mem_cons.1 h with e|h
 ·rw[e];exact ha
 ·exact X6 hb h
theorem ZbW {P : Int→Prop} {a b c r:Int} (ha:P a) (hb:P b) (hc:P c) (h:r∈[a,b,c]):P r:=by
 rcases List.mem_cons.1 h with e|h
 ·rw[e];exact ha
 ·exact Jy hb hc h
theorem V3 {m : Mach} {P : Int→Prop} (ha:P m.a) (hb:P m.b) (hc:P m.c) (hl:∀ r∈m.args,P r) (hd:m.op≠30):∀ r∈takes m,P r:=by
 intro r hr;unfold takes takes7 at hr;rw[if_neg hd]at hr;repeat' split at hr
 all_goals first | exact hl r hr | exact ZbW ha hb hc hr | exact Jy ha hb hr | exact X6 ha hr | exact X6 hb hr | exact X6 hc hr | cases hr
theorem Jc {m : Mach} {P : Int→Prop} (ha:P m.a) (hb:P m.b) (hd:P m.d) (he:P m.e) (hc:m.op≠31):∀ r∈makes m,P r:=by
 intro r hr;unfold makes makes7 at hr;rw[if_neg hc]at hr;repeat' split at hr
 all_goals first | exact Jy hd he hr | exact Jy ha hb hr | exact X6 hd hr | exact X6 ha hr | exact X6 hb hr | exact X6 he hr | cases hr
theorem MGood.ops {i : Mach} (h:MGood i):(1≤i.op∧i.op≤29)∧i.op≠2:=by
 have:=h.op;omega
theorem VJ {i : Mach} (h:MGood i):(takes7 i).length≤4:=by
 have:=h.few;unfold takes7;repeat' split
 all_goals first | exact this | (simp only[List.length_cons,List.length_nil];omega)
theorem Ko {i : Mach}:(makes7 i).length≤2:=by
 unfold makes7;repeat' split
 all_goals simp only[List.length_cons,List.length_nil];omega
theorem Qa {i : Mach} (h:MGood i):∀ r∈takes7 i,0≤r∧r<10000:=by
 have h1:=h.ops;have h2:=V3 (m:=i) (P:=fun r=>0≤r∧r<10000) h.a h.b h.c h.args kT;unfold takes at h2;rw[if_neg h1.2,if_neg kT]at h2;exact h2
theorem Qq {i : Mach} (h:MGood i):∀ r∈makes7 i,0≤r∧r<10000:=by
 have h1:=h.ops;have h2:=Jc (m:=i) (P:=fun r=>0≤r∧r<10000) h.a h.b h.d h.e kT;unfold makes at h2;rw[if_neg h1.2,if_neg kT]at h2;exact h2
theorem ZdC {i : Mach} (h:MGood i) (S:Int):PGood S (nvM i):=by
 have h1:=h.ops;have h4:=VJ h;have hg:∀ r∈(nvM i).args,0≤r∧r<4:=by
  intro r hr;change r∈(if i.op=28 then (List.range (takes7 i).length).map (fun (t:Nat)=>(t:Int)) else []) at hr
  split at hr
  ·obtain⟨t,ht,rfl⟩:=List.mem_map.1 hr;have:=List.mem_range.1 ht;omega
  ·cases hr
 have hb:0≤(nvM i).b∧(nvM i).b<4:=by
  show 0≤(if i.op=28 then (0:Int) else if 1<(takes7 i).length then 1 else 0)∧(if i.op=28 then (0:Int) else if 1<(takes7 i).length then 1 else 0)<4
  repeat' split
  all_goals decide
 have hc:0≤(nvM i).c∧(nvM i).c<4:=by
  show 0≤(if i.op=28 then (0:Int) else if 2<(takes7 i).length then 2 else 0)∧(if i.op=28 then (0:Int) else if 2<(takes7 i).length then 2 else 0)<4
  repeat' split
  all_goals decide
 have he:0≤(nvM i).e∧(nvM i).e<4:=by
  show 0≤(if i.op=29 then (1:Int) else 0)∧(if i.op=29 then (1:Int) else 0)<4
  split
  all_goals decide
 have ha:0≤(nvM i).a∧(nvM i).a<4:=by show (0:Int)≤0∧(0:Int)<4;decide
 have hd:0≤(nvM i).d∧(nvM i).d<4:=by show (0:Int)≤0∧(0:Int)<4;decide
 have hf:(nvM i).op=i.op:=rfl;have hh:(nvM i).imm=i.imm:=rfl;refine⟨?_,Wx fun r hr=>?_,fun hs=>?_,?_,?_,?_,?_⟩
 ·unfold shapeB;rw[hf];split
  ·rename_i e
   rw[Bool.and_eq_true,Bool.and_eq_true];have hA:(nvM i).args=(List.range (takes7 i).length).map (fun (t:Nat)=>(t:Int)):=if_pos e
   rw[hA];refine⟨⟨?_,?_⟩,rfl⟩
   ·rw[List.range_eq_range'];exact Qy _ 0
   ·rw[decide_eq_true_eq,List.length_map,List.length_range];exact h4
  ·split
   ·rename_i e
    rw[Bool.and_eq_true];refine⟨rfl,?_⟩;show ((if i.op=29 then (1:Int) else 0)==1)=true
    rw[if_pos e];rfl
   ·rw[Bool.and_eq_true,decide_eq_true_eq,decide_eq_true_eq];omega
 ·unfold regsOf at hr;rw[hf,if_neg kT]at hr;rcases List.mem_append.1 hr with hr|hr
  ·exact V3 (P:=fun r=>0≤r∧r<4) ha hb hc hg (by rw[hf];omega) r hr
  ·exact Jc (P:=fun r=>0≤r∧r<4) ha hb hd he (by rw[hf];omega) r hr
 ·exfalso
  unfold Y2 at hs;rw[hf,Bool.or_eq_true,beq_iff_eq,beq_iff_eq]at hs;omega
 ·have ho:=h.op;unfold VP;rw[hf,hh];repeat' split
  all_goals first | rfl | (rw[Bool.and_eq_true,decide_eq_true_eq,decide_eq_true_eq];omega)
 ·exact h.imm.1
 ·exact h.imm.2
 ·show (if i.op=28 then (List.range (takes7 i).length).map (fun (t:Nat)=>(t:Int)) else []).length≤1000
  split
  ·rw[List.length_map,List.length_range];omega
  ·decide
structure Zdq (S:Int) (n:Nat) (b:ZD):Prop where
 ins:∀ x∈b.ins,PGood S x.m
 fin:Vp n b.fin
theorem PGood.more {S S':Int} {m : Mach} (h:PGood S m) (hS:S≤S'):PGood S' m:=⟨h.shape,h.regs,fun hs=>by have:=h.slot hs;omega,h.imm,h.fine⟩
structure PrgGood (p:Z2):Prop where
 params:0≤p.params∧p.params≤4
 k:4≤p.k∧p.k≤16
 slots:0≤p.slots∧p.slots≤16000
 blocks:1≤p.blocks.length∧p.blocks.length≤9
 total:ptotal p.blocks≤40000
 each:∀ b∈p.blocks,Zdq p.slots p.blocks.length b
 src:∀ b∈p.blocks,∀ x∈b.ins,-1≤x.src∧x.src≤5000
theorem PrgGood.right {p : Z2} (h:PrgGood p):rightB p=true:=WX h.params h.k ⟨h.slots.1,by have:=h.slots;omega⟩ ⟨h.blocks.1,by have:=h.blocks;omega⟩ (by have:=h.total;omega) fun b hb=>⟨(h.each b hb).ins,(h.each b hb).fin⟩
theorem ZaT {l : List ZD} {b : Nat} {x y:ZD} (hb:l[b]? = some x) (hl:y.ins.length≤x.ins.length+1):ptotal (l.set b y)≤ptotal l+1:=by
 induction l generalizing b with
 | nil=>cases hb
 | cons a r ih =>
  cases b with
  | zero =>
   cases hb
   show ptotal (y::r)≤_
   unfold ptotal;simp only[List.length_cons,List.map_cons,List.sum_cons];omega
  | succ b =>
   have h1:=ih (b:=b) hb;show ptotal (a::r.set b y)≤_
   unfold ptotal at h1 ⊢;simp only[List.length_cons,List.map_cons,List.sum_cons,List.length_set]at h1 ⊢;omega
theorem PrgGood.set {p q:Z2} {b : Nat} {x y:ZD} (h:PrgGood p) (h1:q.params=p.params) (h2:q.k=p.k) (h3:q.slots=p.slots) (h4:q.blocks=p.blocks.set b y) (hb:p.blocks[b]? = some x) (hy:Zdq p.slots p.blocks.length y) (hl:y.ins.length≤x.ins.length+1):rightB q=true:=by
 have ht:=ZaT (y:=y) hb hl;refine WX (by rw[h1];exact h.params) (by rw[h2];exact h.k) (by rw[h3];have:=h.slots;omega) (by rw[h4,List.length_set];have:=h.blocks;omega) (by rw[h4];have:=h.total;omega) fun c hc=>?_
 rw[h4]at hc ⊢;rw[List.length_set,h3];rcases List.mem_or_eq_of_mem_set hc with hc|rfl
 ·exact⟨(h.each c hc).ins,(h.each c hc).fin⟩
 ·exact⟨hy.ins,hy.fin⟩
theorem PrgGood.more {p q:Z2} (h:PrgGood p) (h1:q.params=p.params) (h2:q.k=p.k) (h3:q.slots=p.slots+1) (h4:q.blocks=p.blocks):rightB q=true:=by
 refine WX (by rw[h1];exact h.params) (by rw[h2];exact h.k) (by rw[h3];have:=h.slots;omega) (by rw[h4];have:=h.blocks;omega) (by rw[h4];have:=h.total;omega) fun c hc=>?_
 rw[h4]at hc ⊢;rw[h3];exact⟨fun x hx=>((h.each c hc).ins x hx).more kT,(h.each c hc).fin⟩
open Go.RowKit Go.ChangeShapes Go.WideShapes
theorem Qv:∀ (l:List ZD) (b:Nat) (X:ZD),b<l.length →
  ((((((l.flatMap blcells).set (b*6) X.insv).set (b*6+1) (.int .i64 X.fin.op)).set (b*6+2) (.int .i64 X.fin.a)).set (b*6+3) (.int .i64 X.fin.b)).set (b*6+4) X.fin.tov).set (b*6+5) (.int .i32 X.fin.imm)=(l.set b X).flatMap blcells
 | [],b,X,h=>absurd h kU
 | a::r,0,X,_=>by
  rw[List.flatMap_cons,List.set_cons_zero,List.flatMap_cons]
  simp only[blcells,List.cons_append,List.nil_append,Nat.zero_mul,Nat.zero_add,List.set_cons_zero,List.set_cons_succ]
 | a::r,b+1,X,h=>by
  have hb:b<r.length:=by simpa using h
  have e:∀ (t:Nat) (L:List Value) (v:Value),(blcells a++L).set ((b+1)*6+t) v=blcells a++L.set (b*6+t) v:=fun t L v=>by
   rw[List.set_append_right _ _ (by rw[YE];omega),YE,show (b+1)*6+t-6=b*6+t from by omega]
  have e0:∀ (L:List Value) (v:Value),(blcells a++L).set ((b+1)*6) v=blcells a++L.set (b*6) v:=fun L v=>e 0 L v
  rw[List.flatMap_cons,e0,e,e,e,e,e,Qv r b X hb]
  rfl
theorem ZaP {B : Nat} {w : World} {g cap n:Nat} {l : List ZD} {b : Nat} (X:ZD) (h:OwnRow blcells 6 34 B w (.slice (some ⟨g,0,none⟩) n cap) l) (hb:b<l.length) :
  OwnRow blcells 6 34 B ((((((w.setCell ⟨g,b*6,none⟩ X.insv).setCell ⟨g,b*6+1,none⟩ (.int .i64 X.fin.op)).setCell ⟨g,b*6+2,none⟩ (.int .i64 X.fin.a)).setCell ⟨g,b*6+3,none⟩ (.int .i64 X.fin.b)).setCell ⟨g,b*6+4,none⟩ X.fin.tov).setCell ⟨g,b*6+5,none⟩ (.int .i32 X.fin.imm)) (.slice (some ⟨g,0,none⟩) n cap) (l.set b X):=by
 obtain⟨a',c',e⟩:=Zf (show w.ownsRow _ _ _ _ _ _ from h);have hn:n=l.length:=by cases e;rfl
 subst hn;have h1:=YS (YS (YS (YS (YS (YS (show w.ownsRow _ _ _ _ _ _ from h) (b*6) X.insv) (b*6+1) (.int .i64 X.fin.op)) (b*6+2) (.int .i64 X.fin.a)) (b*6+3) (.int .i64 X.fin.b)) (b*6+4) X.fin.tov) (b*6+5) (.int .i32 X.fin.imm);rw[Qv l b X hb]at h1;unfold OwnRow;rw[List.length_set];exact h1
theorem ZaX {α:Type} {f : α→List Value} {sz:Nat} (hf:∀ x,(f x).length=sz) {B g cap n:Nat} {e : TypeId} {w : World} {l : List α} (h:OwnRow f sz e B w (.slice (some ⟨g,0,none⟩) n cap) l) {b : Nat} {x : α} (hb:l[b]? = some x):(∀ t,t<sz→w.cell? ⟨g,b*sz+t,none⟩=(f x)[t]?)∧g<w.heap.size∧∀ j,w.frozen? ⟨g,j,none⟩=false:=by
 rcases OwnRow.cells hf h with ⟨h1,h2⟩|⟨g2,cap2,h1,h2,h3,h4,h5,h6⟩
 ·rw[h2]at hb;cases hb
 ·cases h1
  obtain⟨cur,hc⟩:=XZ (show w.ownsRow _ _ _ _ _ _ from h) (q:=g) rfl;exact⟨fun t ht=>h6 b t x hb ht,(Array.getElem?_eq_some_iff.1 hc).1,fun j=>HeapIs.frozen (show HeapIs w g cur e from hc) j⟩
theorem ZbK {P : Program} {w : World} {r : Reach} {base:Nat} {t e:TypeId} {v : Value} (ht:P.underlying t=some (.slice e)) (h:Value.okWide P w r base t v):∀ q,v.ownBlock=some q→q<w.heap.size:=by
 obtain⟨a,len,cap,rfl⟩:=okWide_slice ht h;intro q hq
 cases a with
 | none=>cases hq
 | some a =>
  have h2:len≤cap∧(cap:Int)≤IntKind.i64.max∧w.has P r base a e cap:=by
   simp only[Value.okWide,ht,Cell.okWide]at h;simpa [Cell.ok,ht]using h
  obtain⟨_,_,_,_,row,cells,hs,_⟩:=h2;obtain rfl:a.block=q:=Option.some.inj hq;unfold World.shape? at hs;by_cases ha:a.block<w.heap.size
  ·exact ha
  ·rw[Array.getElem?_eq_none kT]at hs
   cases hs
theorem RowIn.each_of {α:Type} {f : α→List Value} {sz:Nat} {p : World→α→Prop} {w : World} {v : Value} {l : List α} (h:RowIn f sz p w v l):∀ y∈l,p w y:=by
 intro y hy;rcases h with ⟨_,_,h2⟩|⟨b,off,cap,_,_,_,_,h5⟩
 ·rw[h2]at hy;cases hy
 ·obtain⟨j,hj⟩:=List.getElem?_of_mem hy;exact (h5 j y hj).2
theorem Zdz {w : World} {v : Value} {l : List PlV} (h:Pls w v l):∀ u∈l.flatMap plcells,u.oneCell'=true:=by
 intro u hu;obtain⟨z,hz,ha⟩:=List.mem_flatMap.1 hu;have hb:=RowIn.each_of h z hz;obtain⟨a1,c1,e1⟩:=Zb hb.1;simp only[plcells,List.mem_cons,List.not_mem_nil,or_false]at ha;rcases ha with rfl|rfl|rfl|rfl|rfl|rfl|rfl|rfl|rfl<;>first|rfl|(rw[e1];rfl)
theorem Zdy {w : World} {v : Value} {l : List PlV} (h:Pls w v l):JB w v l.length (l.flatMap plcells):=XG ZE kS h
theorem ZcD (l:List PlV):(l.flatMap plcells).length=l.length*9:=Vz plcells 9 ZE l
theorem Zda {w : World} {v : Value} {l : List ZD} (h:Zdg w v l):∀ u∈l.flatMap blcells,u.oneCell'=true:=by
 intro u hu;obtain⟨z,hz,hb⟩:=List.mem_flatMap.1 hu;have ha:=RowIn.each_of h z hz;obtain⟨a1,c1,e1,_⟩:=RowIn.shape (show Pls w z.insv z.ins from ha.1);obtain⟨a2,c2,e2⟩:=Zb ha.2.1;simp only[blcells,List.mem_cons,List.not_mem_nil,or_false]at hb;rcases hb with rfl|rfl|rfl|rfl|rfl|rfl<;>first|rfl|(rw[e1];rfl)|(rw[e2];rfl)
theorem Zc9 {w : World} {v : Value} {l : List ZD} (h:Zdg w v l):JB w v l.length (l.flatMap blcells):=XG YE kS h
theorem Zcj (l:List ZD):(l.flatMap blcells).length=l.length*6:=Vz blcells 6 YE l
theorem ZaW {B : Nat} {w : World} {v : Value} {l : List PlV} {n : Nat} (h:w.ownsRow B 38 9 v n (l.flatMap plcells)) (hn:l.length=n) (hp:0<n):∃ g c,v=.slice (some ⟨g,0,none⟩) n c∧B≤g∧g<w.heap.size∧OwnRow plcells 9 38 B w (.slice (some ⟨g,0,none⟩) n c) l:=by
 subst hn;rcases OwnRow.cells ZE (show OwnRow plcells 9 38 B w v l from h) with ⟨h1,h2⟩|⟨g,c,h1,_,_,h4,h5,_⟩
 ·rw[h2]at hp;exact absurd hp kU
 ·subst h1;exact⟨g,c,rfl,h4,h5,h⟩
theorem Zao {B : Nat} {w : World} {v : Value} {l : List ZD} {n : Nat} (h:w.ownsRow B 34 6 v n (l.flatMap blcells)) (hn:l.length=n) (hp:0<n):∃ g c,v=.slice (some ⟨g,0,none⟩) n c∧B≤g∧g<w.heap.size∧OwnRow blcells 6 34 B w (.slice (some ⟨g,0,none⟩) n c) l:=by
 subst hn;rcases OwnRow.cells YE (show OwnRow blcells 6 34 B w v l from h) with ⟨h1,h2⟩|⟨g,c,h1,_,_,h4,h5,_⟩
 ·rw[h2]at hp;exact absurd hp kU
 ·subst h1;exact⟨g,c,rfl,h4,h5,h⟩
end Go.Proofs.YtimpddecdodddaaGreat
