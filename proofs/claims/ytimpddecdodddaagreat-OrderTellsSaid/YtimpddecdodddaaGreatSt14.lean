import Derived.Test.YtimpddecdodddaaGreatSt11
import Derived.Test.YtimpddecdodddaaGreatSt13
namespace Go.Proofs.YtimpddecdodddaaGreat
open Go.RowKit
set_option linter.unusedVariables false
theorem jS {P:Prop} (h:P:=by rw[List.length_map];exact Nat.le_trans (List.length_filter_le _ _) (by simp)):P:=h
structure PGood (S:Int) (m:Mach):Prop where
 shape:shapeB m=true
 regs:Yi 4 (Yg m)=false
 slot:ZM m=true→0≤m.imm∧m.imm<S
 imm:Yh m=true
 fine:Xt m
theorem Jy {k : Int} {l : List Int} (h:∀ r∈l,0≤r∧r<k):Yi k l=false:=by
 unfold Yi;rw[List.any_eq_false];intro r hr;have:=h r hr;simp only[Bool.or_eq_true,decide_eq_true_eq];omega
theorem Zbl {k k':Int} {l : List Int} (h:Yi k l=false) (hk:k≤k'):Yi k' l=false:=by
 refine Jy fun r hr=>?_
 unfold Yi at h;rw[List.any_eq_false]at h;have:=h r hr;simp only[Bool.or_eq_true,decide_eq_true_eq]at this;omega
theorem PGood.ins {S S' k:Int} {m : Mach} (h:PGood S m) (hk:4≤k) (hS:S≤S'):Y9 m k S'=0:=by
 unfold Y9;rw[if_neg (by rw[h.shape];decide),if_neg (by rw[Zbl h.regs hk];decide),if_neg ?_,if_neg (by rw[h.imm];decide)];intro h1;rw[Bool.and_eq_true,Bool.or_eq_true,decide_eq_true_eq,decide_eq_true_eq]at h1;have:=h.slot h1.1;omega
structure JT (n:Int) (e:ZY):Prop where
 fits:Ya e=true
 need:ZL e 4=false
 goals:∀ t∈e.to,1≤t∧t<n
theorem JT.fin {n k:Int} {e : ZY} (h:JT n e) (hk:4≤k):endE e k n=0:=by
 unfold endE;rw[if_neg (by rw[h.fits];decide),if_neg ?_,if_neg ?_]
 ·unfold Yf;rw[List.any_eq_true];rintro⟨t,ht,h1⟩;have:=h.goals t ht;simp only[Bool.or_eq_true,decide_eq_true_eq]at h1;omega
 ·have h2:=h.need;unfold ZL at h2 ⊢;rw[List.any_eq_false]at h2;rw[List.any_eq_true];rintro⟨r,hr,h1⟩;have:=h2 r hr;simp only[Bool.or_eq_true,Bool.and_eq_true,beq_iff_eq,decide_eq_true_eq]at h1 this;omega
theorem VT {p : Z2} (hp:0≤p.params∧p.params≤4) (hk:4≤p.k∧p.k≤16) (hs:0≤p.slots∧p.slots≤16384) (hb:1≤p.blocks.length∧p.blocks.length≤512) (ht:ptotal p.blocks≤65536)
  (hi:∀ b∈p.blocks,(∀ x∈b.ins,PGood p.slots x.m)∧JT p.blocks.length b.fin):rightB p=true:=by
 have h0:Vr p=0:=by
  unfold Vr;rw[if_neg zaK,if_neg zaK,if_neg zaK]
 unfold rightB funcE;rw[if_pos h0,Wp 0 fun b hb=>?_]
 ·rfl
 ·unfold Vf;rw[Wo 0 fun x hx=>((hi b hb).1 x hx).ins hk.1 (Int.le_refl _)];dsimp only;rw[if_pos ((hi b hb).2.fin hk.1)]
def Vq (op reg n:Int):Mach:=if op=31 then { op:=op,d:=0,e:=0,a:=reg,b:=0,c:=0,imm:=n,args:=[] } else { op:=op,d:=reg,e:=0,a:=0,b:=0,c:=0,imm:=n,args:=[] }
theorem Zc5 {op reg n S:Int} (ho:op=30∨op=31) (hr:0≤reg∧reg<4) (hn:0≤n∧n<S) (hS:S≤16384):PGood S (Vq op reg n):=by
 rcases ho with rfl|rfl;iterate 2
  ·refine⟨rfl,Jy fun r h=>?_,fun _=>hn,rfl,?_,?_,?_⟩
   ·have h:r∈[reg]:=h;rw[List.mem_singleton.1 h];exact hr
   ·show (-2147483648:Int)≤n;omega
   ·show n≤2147483647;omega
   ·show (0:Nat)≤1000;decide
def nvM (i:Mach):Mach:={ op:=i.op,d:=0,e:=if i.op=29 then 1 else 0,a:=0,b:=if i.op=28 then 0 else if 1<(takes7 i).length then 1 else 0,c:=if i.op=28 then 0 else if 2<(takes7 i).length then 2 else 0,imm:=i.imm,args:=if i.op=28 then (List.range (takes7 i).length).map (fun (t:Nat)=>(t:Int)) else [] }
theorem Zac (n:Nat):∀ s,YX ((List.range' s n).map fun (t:Nat)=>(t:Int)) s=true:=by
 induction n with
 | zero=>intro s;rfl
 | succ n ih =>
  intro s;rw[List.range'_succ,List.map_cons];unfold YX;rw[ih (s+1)];simp
theorem Wi {P : Int→Prop} {a r:Int} (ha:P a) (h:r∈[a]):P r:=by
 rw[List.mem_singleton.1 h];exact ha
theorem JO {P : Int→Prop} {a b r:Int} (ha:P a) (hb:P b) (h:r∈[a,b]):P r:=by
 rcases List.mem_cons.1 h with e|h
 ·rw[e];exact ha
 ·exact Wi hb h
theorem Zc1 {P : Int→Prop} {a b c r:Int} (ha:P a) (hb:P b) (hc:P c) (h:r∈[a,b,c]):P r:=by
 rcases List.mem_cons.1 h with e|h
 ·rw[e];exact ha
 ·exact JO hb hc h
theorem Jd {m : Mach} {P : Int→Prop} (ha:P m.a) (hb:P m.b) (hc:P m.c) (hl:∀ r∈m.args,P r) (hd:m.op≠30):∀ r∈takes m,P r:=by
 intro r hr;unfold takes takes7 at hr;rw[if_neg hd]at hr;repeat' split at hr
 all_goals first | exact hl r hr | exact Zc1 ha hb hc hr | exact JO ha hb hr | exact Wi ha hr | exact Wi hb hr | exact Wi hc hr | cases hr
theorem Jm {m : Mach} {P : Int→Prop} (ha:P m.a) (hb:P m.b) (hd:P m.d) (he:P m.e) (hc:m.op≠31):∀ r∈makes m,P r:=by
 intro r hr;unfold makes makes7 at hr;rw[if_neg hc]at hr;repeat' split at hr
 all_goals first | exact JO hd he hr | exact JO ha hb hr | exact Wi hd hr | exact Wi ha hr | exact Wi hb hr | exact Wi he hr | cases hr
theorem MGood.ops {i : Mach} (h:MGood i):(1≤i.op∧i.op≤29)∧i.op≠2:=by
 have:=h.op;omega
theorem VQ {i : Mach} (h:MGood i):(takes7 i).length≤4:=by
 have:=h.few;unfold takes7;repeat' split
 all_goals first | exact this | (simp only[List.length_cons,List.length_nil];omega)
theorem KN {i : Mach}:(makes7 i).length≤2:=by
 unfold makes7;repeat' split
 all_goals simp only[List.length_cons,List.length_nil];omega
theorem QC {i : Mach} (h:MGood i):∀ r∈takes7 i,0≤r∧r<10000:=by
 have h1:=h.ops;have h2:=Jd (m:=i) (P:=fun r=>0≤r∧r<10000) h.a h.b h.c h.args zaK;unfold takes at h2;rw[if_neg h1.2,if_neg zaK]at h2;exact h2
theorem QT {i : Mach} (h:MGood i):∀ r∈makes7 i,0≤r∧r<10000:=by
 have h1:=h.ops;have h2:=Jm (m:=i) (P:=fun r=>0≤r∧r<10000) h.a h.b h.d h.e zaK;unfold makes at h2;rw[if_neg h1.2,if_neg zaK]at h2;exact h2
theorem Zeq {i : Mach} (h:MGood i) (S:Int):PGood S (nvM i):=by
 have h1:=h.ops;have h4:=VQ h;have hg:∀ r∈(nvM i).args,0≤r∧r<4:=by
  intro r hr;change r∈(if i.op=28 then (List.range (takes7 i).length).map (fun (t:Nat)=>(t:Int)) else []) at hr
  split at hr
  ·obtain⟨t,ht,rfl⟩:=List.mem_map.1 hr;have:=List.mem_range.1 ht;omega
  ·cases hr
 have hb:0≤(nvM i).b∧(nvM i).b<4:=by
  show 0≤(if i.op=28 then (0:Int) else if 1<(takes7 i).length then 1 else 0)∧(if i.op=28 then (0:Int) else if 1<(takes7 i).length then 1 else 0)<4
  repeat' split
  all_goals decide
 have hc:0≤(nvM i).c∧(nvM i).c<4:=by
  show 0≤(if i.op=28 then (0:Int) else if 2<(takes7 i).length then 2 else 0)∧(if i.op=28 then (0:Int) else if 2<(takes7 i).length then 2 else 0)<4
  repeat' split
  all_goals decide
 have he:0≤(nvM i).e∧(nvM i).e<4:=by
  show 0≤(if i.op=29 then (1:Int) else 0)∧(if i.op=29 then (1:Int) else 0)<4
  split
  all_goals decide
 have ha:0≤(nvM i).a∧(nvM i).a<4:=by show (0:Int)≤0∧(0:Int)<4;decide
 have hd:0≤(nvM i).d∧(nvM i).d<4:=by show (0:Int)≤0∧(0:Int)<4;decide
 have hf:(nvM i).op=i.op:=rfl;have hh:(nvM i).imm=i.imm:=rfl;refine⟨?_,Jy fun r hr=>?_,fun hs=>?_,?_,?_,?_,?_⟩
 ·unfold shapeB;rw[hf];split
  ·rename_i e
   rw[Bool.and_eq_true,Bool.and_eq_true];have hA:(nvM i).args=(List.range (takes7 i).length).map (fun (t:Nat)=>(t:Int)):=if_pos e
   rw[hA];refine⟨⟨?_,?_⟩,rfl⟩
   ·rw[List.range_eq_range'];exact Zac _ 0
   ·rw[decide_eq_true_eq,List.length_map,List.length_range];exact h4
  ·split
   ·rename_i e
    rw[Bool.and_eq_true];refine⟨rfl,?_⟩;show ((if i.op=29 then (1:Int) else 0)==1)=true
    rw[if_pos e];rfl
   ·rw[Bool.and_eq_true,decide_eq_true_eq,decide_eq_true_eq];omega
 ·unfold Yg at hr;rw[hf,if_neg zaK]at hr;rcases List.mem_append.1 hr with hr|hr
  ·exact Jd (P:=fun r=>0≤r∧r<4) ha hb hc hg (by rw[hf];omega) r hr
  ·exact Jm (P:=fun r=>0≤r∧r<4) ha hb hd he (by rw[hf];omega) r hr
 ·exfalso
  unfold ZM at hs;rw[hf,Bool.or_eq_true,beq_iff_eq,beq_iff_eq]at hs;omega
 ·have ho:=h.op;unfold Yh;rw[hf,hh];repeat' split
  all_goals first | rfl | (rw[Bool.and_eq_true,decide_eq_true_eq,decide_eq_true_eq];omega)
 ·exact h.imm.1
 ·exact h.imm.2
 ·show (if i.op=28 then (List.range (takes7 i).length).map (fun (t:Nat)=>(t:Int)) else []).length≤1000
  split
  ·rw[List.length_map,List.length_range];omega
  ·decide
theorem Zau (e:ZY):YZ e e=true:=by unfold YZ numsB;simp
structure Zei (S:Int) (n:Nat) (b:Zx):Prop where
 ins:∀ x∈b.ins,PGood S x.m
 fin:JT n b.fin
theorem PGood.more {S S':Int} {m : Mach} (h:PGood S m) (hS:S≤S'):PGood S' m:=⟨h.shape,h.regs,fun hs=>by have:=h.slot hs;omega,h.imm,h.fine⟩
structure PrgGood (p:Z2):Prop where
 params:0≤p.params∧p.params≤4
 k:4≤p.k∧p.k≤16
 slots:0≤p.slots∧p.slots≤16000
 blocks:1≤p.blocks.length∧p.blocks.length≤9
 total:ptotal p.blocks≤40000
 each:∀ b∈p.blocks,Zei p.slots p.blocks.length b
 src:∀ b∈p.blocks,∀ x∈b.ins,-1≤x.src∧x.src≤5000
theorem PrgGood.right {p : Z2} (h:PrgGood p):rightB p=true:=VT h.params h.k ⟨h.slots.1,by have:=h.slots;omega⟩ ⟨h.blocks.1,by have:=h.blocks;omega⟩ (by have:=h.total;omega) fun b hb=>⟨(h.each b hb).ins,(h.each b hb).fin⟩
theorem ZbS {l : List Zx} {b : Nat} {x y:Zx} (hb:l[b]? = some x) (hl:y.ins.length≤x.ins.length+1):ptotal (l.set b y)≤ptotal l+1:=by
 induction l generalizing b with
 | nil=>cases hb
 | cons a r ih =>
  cases b with
  | zero =>
   cases hb
   show ptotal (y::r)≤_
   unfold ptotal;simp only[List.length_cons,List.map_cons,List.sum_cons];omega
  | succ b =>
   have h1:=ih (b:=b) hb;show ptotal (a::r.set b y)≤_
   unfold ptotal at h1 ⊢;simp only[List.length_cons,List.map_cons,List.sum_cons,List.length_set]at h1 ⊢;omega
theorem PrgGood.set {p q:Z2} {b : Nat} {x y:Zx} (h:PrgGood p) (h1:q.params=p.params) (h2:q.k=p.k) (h3:q.slots=p.slots) (h4:q.blocks=p.blocks.set b y) (hb:p.blocks[b]? = some x) (hy:Zei p.slots p.blocks.length y) (hl:y.ins.length≤x.ins.length+1):rightB q=true:=by
 have ht:=ZbS (y:=y) hb hl;refine VT (by rw[h1];exact h.params) (by rw[h2];exact h.k) (by rw[h3];have:=h.slots;omega) (by rw[h4,List.length_set];have:=h.blocks;omega) (by rw[h4];have:=h.total;omega) fun c hc=>?_
 rw[h4]at hc ⊢;rw[List.length_set,h3];rcases List.mem_or_eq_of_mem_set hc with hc|rfl
 ·exact⟨(h.each c hc).ins,(h.each c hc).fin⟩
 ·exact⟨hy.ins,hy.fin⟩
theorem PrgGood.more {p q:Z2} (h:PrgGood p) (h1:q.params=p.params) (h2:q.k=p.k) (h3:q.slots=p.slots+1) (h4:q.blocks=p.blocks):rightB q=true:=by
 refine VT (by rw[h1];exact h.params) (by rw[h2];exact h.k) (by rw[h3];have:=h.slots;omega) (by rw[h4];have:=h.blocks;omega) (by rw[h4];have:=h.total;omega) fun c hc=>?_
 rw[h4]at hc ⊢;rw[h3];exact⟨fun x hx=>((h.each c hc).ins x hx).more zaK,(h.each c hc).fin⟩
def KP:Mach:=⟨0,0,0,0,0,0,0,[]⟩
structure Zft (p q:Z2) (x y:Mach):Prop where
 params:q.params=p.params
 k:q.k=p.k
 slots:q.slots=p.slots
 how:(q.blocks=p.blocks∧x=KP∧y=KP)∨∃ (b:Nat) (u v:List PlV) (X Y:PlV) (blk blk':Zx),p.blocks[b]? = some blk∧blk.ins=u++X::Y::v∧q.blocks=p.blocks.set b blk'∧blk'.ins=u++Y::X::v∧blk'.fin=blk.fin∧x=X.m∧y=Y.m
structure VN (p q:Z2):Prop where
 params:q.params=p.params
 k:q.k=p.k
 slots:q.slots=p.slots
 len:q.blocks.length=p.blocks.length
 each:∀ (t:Nat) (a b:Zx),p.blocks[t]? = some a→q.blocks[t]? = some b→b.fin=a.fin∧TE Y5 (a.ins.map key) (b.ins.map key)∧∀ x∈b.ins,x∈a.ins
theorem Zap {a b:List PlV} (h:TE Y5 (a.map key) (b.map key)):b.length=a.length:=by
 have:=h.len;simpa using this.symm
theorem VN.at {p q:Z2} (h:VN p q) {b : Zx} (hb:b∈q.blocks):∃ a∈p.blocks,b.fin=a.fin∧∀ x∈b.ins,x∈a.ins:=by
 obtain⟨t,ht⟩:=List.getElem?_of_mem hb;have hc:=(List.getElem?_eq_some_iff.1 ht).1;obtain⟨a,ha⟩:∃ a,p.blocks[t]? = some a:=⟨_,List.getElem?_eq_getElem (by rw[←h.len];exact hc)⟩
 obtain⟨h1,_,h2⟩:=h.each t a b ha ht;exact⟨a,List.mem_of_getElem? ha,h1,h2⟩
theorem VN.turns {p q:Z2} (h:VN p q):Zfs p q:=by
 refine⟨by unfold Zah;rw[h.params,h.k,h.slots,h.len];simp,fun t a b ha hb=>?_⟩;obtain⟨h1,h2,_⟩:=h.each t a b ha hb;rw[Zce,h1];exact⟨Zap h2,h2,Zau _⟩
def pl0:PlV:=⟨KP,.slice none 0 0,0⟩
def badAt (l:List PlV) (gone:List Bool) (i k:Nat):Bool:=!gone.getD k true&&Zw (l.getD k pl0).m (l.getD i pl0).m
def YH (l:List PlV) (gone:List Bool) (i k:Nat):Bool:=!gone.getD i true&&(List.range k).all fun j=>!badAt l gone i j
theorem Zaw (l:List PlV) (gone:List Bool) (i:Nat):YH l gone i 0 = !gone.getD i true:=by unfold YH;simp
theorem W9 (l:List PlV) (gone:List Bool) (i k:Nat):YH l gone i (k+1)=(YH l gone i k&&!badAt l gone i k):=by
 unfold YH;rw[List.range_succ,List.all_append,Bool.and_assoc];simp
def YL (l:List PlV) (gone:List Bool) (i:Nat):List Int:=((List.range i).filter fun j=>YH l gone j j).map fun (j:Nat)=>(j:Int)
theorem Jl (l:List PlV) (gone:List Bool) (i:Nat):YL l gone (i+1)=YL l gone i++(if YH l gone i i then [(i:Int)] else []):=by
 unfold YL;rw[List.range_succ,List.filter_append,List.map_append];congr 1
 cases h:YH l gone i i<;>simp[h]
theorem ZdQ (l:List PlV) (gone:List Bool) (i:Nat):(YL l gone i).length≤i:=by
 unfold YL;exact jS
theorem ZaK {l : List PlV} {gone:List Bool} {n : Nat} {x : Int} (h:x∈YL l gone n):∃ i:Nat,x=i∧i<n∧YH l gone i i=true:=by
 unfold YL at h;obtain⟨i,hi,rfl⟩:=List.mem_map.1 h;rw[List.mem_filter]at hi;exact⟨i,rfl,List.mem_range.1 hi.1,hi.2⟩
def Xg:List PlV→List Bool→List PlV
 | x::l,g::gs=>if g then Xg l gs else x::Xg l gs
 | _,_=>[]
theorem QV:∀ l:List PlV,Xg l (List.replicate l.length false)=l
 | []=>rfl
 | x::l=>by
  show Xg (x::l) (false::List.replicate l.length false)=_
  unfold Xg
  rw[if_neg zaJ,QV l]
theorem ZaN:∀ (l:List PlV) (gone:List Bool) (i:Nat) (x:PlV),l[i]? = some x→gone[i]? = some false→∃ u v,Xg l gone=u++x::v∧Xg l (gone.set i true)=u++v∧∀ z∈u,∃ k,k<i∧l[k]? = some z∧gone[k]? = some false
 | [],_,_,_,h,_=>by cases h
 | _::_,[],_,_,_,h=>by cases h
 | a::l,g::gs,0,x,h1,h2=>by
  cases h1;cases h2
  refine⟨[],Xg l gs,?_,?_,fun z hz=>by cases hz⟩
  ·conv=>lhs;unfold Xg
   rfl
  ·rw[List.set_cons_zero]
   conv=>lhs;unfold Xg
   rfl
 | a::l,g::gs,i+1,x,h1,h2=>by
  obtain⟨u,v,e1,e2,h3⟩:=ZaN l gs i x h1 h2
  cases g with
  | true =>
   refine⟨u,v,?_,?_,fun z hz=>?_⟩
   ·rw[←e1];rfl
   ·rw[←e2];rfl
   ·obtain⟨k,hk,h4,h5⟩:=h3 z hz
    exact⟨k+1,zaK,h4,h5⟩
  | false =>
   refine⟨a::u,v,?_,?_,fun z hz=>?_⟩
   ·rw[List.cons_append,←e1];rfl
   ·rw[List.cons_append,←e2];rfl
   ·rcases List.mem_cons.1 hz with rfl|hz
    ·exact⟨0,zaK,rfl,rfl⟩
    ·obtain⟨k,hk,h4,h5⟩:=h3 z hz
     exact⟨k+1,zaK,h4,h5⟩
theorem J6:∀ (l:List PlV) (gone:List Bool),0<(Xg l gone).length→∃ i,i<l.length∧gone[i]? = some false∧∀ k,k<i→gone[k]? = some true
 | [],_,h=>by unfold Xg at h;exact absurd h zaL
 | _::_,[],h=>by unfold Xg at h;exact absurd h zaL
 | a::l,g::gs,h=>by
  cases g with
  | false=>exact⟨0,by simp,rfl,fun k hk=>by omega⟩
  | true =>
   have h':0<(Xg l gs).length:=h
   obtain⟨i,h1,h2,h3⟩:=J6 l gs h'
   refine⟨i+1,by simpa using h1,h2,fun k hk=>?_⟩
   cases k with
   | zero=>rfl
   | succ k=>exact h3 k zaK
structure PutS (l out:List PlV) (gone:List Bool):Prop where
 len:gone.length=l.length
 te:TE Y5 (l.map key) ((out++Xg l gone).map key)
 sub:∀ x∈out,x∈l
theorem PutS.cnt {l out:List PlV} {gone:List Bool} (h:PutS l out gone):out.length+(Xg l gone).length=l.length:=by
 have:=Zap h.te;simpa using this
theorem PutS.start (l:List PlV):PutS l [] (List.replicate l.length false):=⟨by simp,by rw[QV];exact .refl _,fun x h=>by cases h⟩
theorem YK {α:Type} {l : List α} {k : Nat} {x d:α} (h:l[k]? = some x):l.getD k d=x:=by rw[List.getD_eq_getElem?_getD,h];rfl
theorem PutS.next {l out:List PlV} {gone:List Bool} {i : Nat} {x : PlV} (h:PutS l out gone) (hx:l[i]? = some x) (hr:YH l gone i i=true):PutS l (out++[x]) (gone.set i true):=by
 have ha:=(List.getElem?_eq_some_iff.1 hx).1;unfold YH at hr;rw[Bool.and_eq_true,List.all_eq_true]at hr;obtain⟨hg,hb⟩:=hr;have hc:gone[i]? = some false:=by
  obtain⟨g,h1⟩:∃ g,gone[i]? = some g:=⟨_,List.getElem?_eq_getElem (by rw[h.len];exact ha)⟩
  rw[YK h1]at hg;rw[h1]
  cases g with
  | false=>rfl
  | true=>cases hg
 obtain⟨u,v,e1,e2,h3⟩:=ZaN l gone i x hx hc;have hs:∀ a b:Key,Y5 a b=Y5 b a:=fun a b=>ZaV a.1 b.1
 refine⟨by rw[List.length_set];exact h.len,?_,fun z hz=>?_⟩
 ·rw[e2];have h1:=h.te;rw[e1]at h1;have h4:TE Y5 (u.map key++key x::v.map key) (key x::(u.map key++v.map key)):=TE.front hs _ fun z hz=>by
   obtain⟨y,hy,rfl⟩:=List.mem_map.1 hz;obtain⟨k,hk,h5,h6⟩:=h3 y hy;have h7:=hb k (List.mem_range.2 hk);unfold badAt at h7;rw[YK h5,YK hx,YK h6]at h7;show Zw y.m x.m=false
   cases hd:Zw y.m x.m with
   | false=>rfl
   | true=>rw[hd]at h7;cases h7
  have h5:=h4.app (out.map key);refine h1.trans ?_;simpa using h5
 ·rcases List.mem_append.1 hz with hz|hz
  ·exact h.sub z hz
  ·rw[List.mem_singleton.1 hz];exact List.mem_of_getElem? hx
theorem PutS.may {l out:List PlV} {gone:List Bool} (h:PutS l out gone) (ha:out.length<l.length):0<(YL l gone l.length).length:=by
 have hc:=h.cnt;obtain⟨i,h1,h2,h3⟩:=J6 l gone zaK;refine List.length_pos_of_mem (a:=(i:Int)) ?_;unfold YL;refine List.mem_map.2 ⟨i,List.mem_filter.2 ⟨List.mem_range.2 h1,?_⟩,rfl⟩;unfold YH;rw[YK h2,Bool.not_false,Bool.true_and,List.all_eq_true];intro j hj;unfold badAt;rw[YK (h3 j (List.mem_range.1 hj))];rfl
theorem PutS.done {l out:List PlV} {gone:List Bool} (h:PutS l out gone) (he:out.length=l.length):TE Y5 (l.map key) (out.map key):=by
 have hc:=h.cnt;have h0:Xg l gone=[]:=List.length_eq_zero_iff.1 zaK;have h1:=h.te;rw[h0,List.append_nil]at h1;exact h1
end Go.Proofs.YtimpddecdodddaaGreat
