/- Which programs of registers are right: pieces that may be for sure, and all of them. OrderOther: what is told of a program with something another one. A program of which a block is turned: rows of blocks and of instructions of the call's own. Rows of instructions of the call's own: one is set, or it -/
import Derived.Test.YtkpbmbhejpmboaaPkB05
import Derived.Test.YtkpbmbhejpmboaaPkB09
import Derived.Test.YtkpbmbhejpmboaaPkB10
import Derived.Test.YtkpbmbhejpmboaaPkB12
namespace Go.Proofs.Ytkpbmbhejpmboaa
open Go.RowKit
set_option linter.unusedVariables false
structure PGood (S:Int) (m:Mach):Prop where
 shape:shapeB m=true
 regs:badReg 4 (regsOf m)=false
 slot:stackB m=true→0≤m.imm∧m.imm<S
 imm:immB m=true
 fine:Fine m
theorem badReg_of {k : Int} {l : List Int} (h:∀ r∈l,0≤r∧r<k):badReg k l=false:=by
 unfold badReg
 rw[List.any_eq_false]
 intro r hr
 have:=h r hr
 simp only[Bool.or_eq_true,decide_eq_true_eq]
 omega
theorem badReg_mono {k k':Int} {l : List Int} (h:badReg k l=false) (hk:k≤k'):badReg k' l=false:=by
 refine badReg_of fun r hr=>?_
 unfold badReg at h
 rw[List.any_eq_false]at h
 have:=h r hr
 simp only[Bool.or_eq_true,decide_eq_true_eq]at this
 omega
theorem PGood.ins {S S' k:Int} {m : Mach} (h:PGood S m) (hk:4≤k) (hS:S≤S'):insE m k S'=0:=by
 unfold insE
 rw[if_neg (by rw[h.shape];decide),if_neg (by rw[badReg_mono h.regs hk];decide),if_neg ?_,if_neg (by rw[h.imm];decide)]
 intro h1
 rw[Bool.and_eq_true,Bool.or_eq_true,decide_eq_true_eq,decide_eq_true_eq]at h1
 have:=h.slot h1.1
 omega
structure EGood (n:Int) (e:EndV):Prop where
 fits:fitsB e=true
 need:badNeed e 4=false
 goals:∀ t∈e.to,1≤t∧t<n
theorem EGood.fin {n k:Int} {e : EndV} (h:EGood n e) (hk:4≤k):endE e k n=0:=by
 unfold endE
 rw[if_neg (by rw[h.fits];decide),if_neg ?_,if_neg ?_]
 ·unfold badTo
  rw[List.any_eq_true]
  rintro⟨t,ht,h1⟩
  have:=h.goals t ht
  simp only[Bool.or_eq_true,decide_eq_true_eq]at h1
  omega
 ·have h2:=h.need
  unfold badNeed at h2 ⊢
  rw[List.any_eq_false]at h2
  rw[List.any_eq_true]
  rintro⟨r,hr,h1⟩
  have:=h2 r hr
  simp only[Bool.or_eq_true,Bool.and_eq_true,beq_iff_eq,decide_eq_true_eq]at h1 this
  omega
theorem right_of {p : PrgV} (hp:0≤p.params∧p.params≤4) (hk:4≤p.k∧p.k≤16) (hs:0≤p.slots∧p.slots≤16384) (hb:1≤p.blocks.length∧p.blocks.length≤512) (ht:ptotal p.blocks≤65536)
  (hi:∀ b∈p.blocks,(∀ x∈b.ins,PGood p.slots x.m)∧EGood p.blocks.length b.fin):rightB p=true:=by
 have h0:headE p=0:=by
  unfold headE
  rw[if_neg (by omega),if_neg (by omega),if_neg (by omega)]
 unfold rightB funcE
 rw[if_pos h0,blkList_none 0 fun b hb=>?_]
 ·rfl
 ·unfold blkE
  rw[insList_none 0 fun x hx=>((hi b hb).1 x hx).ins hk.1 (Int.le_refl _)]
  dsimp only
  rw[if_pos ((hi b hb).2.fin hk.1)]
def laidM (op reg n:Int):Mach:=if op=31 then { op:=op,d:=0,e:=0,a:=reg,b:=0,c:=0,imm:=n,args:=[] } else { op:=op,d:=reg,e:=0,a:=0,b:=0,c:=0,imm:=n,args:=[] }
theorem laid_good {op reg n S:Int} (ho:op=30∨op=31) (hr:0≤reg∧reg<4) (hn:0≤n∧n<S) (hS:S≤16384):PGood S (laidM op reg n):=by
 rcases ho with rfl|rfl
 ·refine⟨rfl,badReg_of fun r h=>?_,fun _=>hn,rfl,?_,?_,?_⟩
  ·have h:r∈[reg]:=h
   rw[List.mem_singleton.1 h];exact hr
  ·show (-2147483648:Int)≤n;omega
  ·show n≤2147483647;omega
  ·show (0:Nat)≤1000;decide
 ·refine⟨rfl,badReg_of fun r h=>?_,fun _=>hn,rfl,?_,?_,?_⟩
  ·have h:r∈[reg]:=h
   rw[List.mem_singleton.1 h];exact hr
  ·show (-2147483648:Int)≤n;omega
  ·show n≤2147483647;omega
  ·show (0:Nat)≤1000;decide
def nvM (i:Mach):Mach:={ op:=i.op,d:=0,e:=if i.op=29 then 1 else 0,a:=0,b:=if i.op=28 then 0 else if 1<(takes7 i).length then 1 else 0,c:=if i.op=28 then 0 else if 2<(takes7 i).length then 2 else 0,imm:=i.imm,args:=if i.op=28 then (List.range (takes7 i).length).map (fun (t:Nat)=>(t:Int)) else [] }
theorem placesB_range (n:Nat):∀ s,placesB ((List.range' s n).map fun (t:Nat)=>(t:Int)) s=true:=by
 induction n with
 | zero=>intro s;rfl
 | succ n ih =>
  intro s
  rw[List.range'_succ,List.map_cons]
  unfold placesB
  rw[ih (s+1)]
  simp
theorem mem_one {P : Int→Prop} {a r:Int} (ha:P a) (h:r∈[a]):P r:=by
 rw[List.mem_singleton.1 h];exact ha
theorem mem_two {P : Int→Prop} {a b r:Int} (ha:P a) (hb:P b) (h:r∈[a,b]):P r:=by
 rcases List.mem_cons.1 h with e|h
 ·rw[e];exact ha
 ·exact mem_one hb h
theorem mem_three {P : Int→Prop} {a b c r:Int} (ha:P a) (hb:P b) (hc:P c) (h:r∈[a,b,c]):P r:=by
 rcases List.mem_cons.1 h with e|h
 ·rw[e];exact ha
 ·exact mem_two hb hc h
theorem takes_fields {m : Mach} {P : Int→Prop} (ha:P m.a) (hb:P m.b) (hc:P m.c) (hl:∀ r∈m.args,P r) (h30:m.op≠30):∀ r∈takes m,P r:=by
 intro r hr
 unfold takes takes7 at hr
 rw[if_neg h30]at hr
 repeat' split at hr
 all_goals first | exact hl r hr | exact mem_three ha hb hc hr | exact mem_two ha hb hr | exact mem_one ha hr | exact mem_one hb hr | exact mem_one hc hr | cases hr
theorem makes_fields {m : Mach} {P : Int→Prop} (ha:P m.a) (hb:P m.b) (hd:P m.d) (he:P m.e) (h31:m.op≠31):∀ r∈makes m,P r:=by
 intro r hr
 unfold makes makes7 at hr
 rw[if_neg h31]at hr
 repeat' split at hr
 all_goals first | exact mem_two hd he hr | exact mem_two ha hb hr | exact mem_one hd hr | exact mem_one ha hr | exact mem_one hb hr | exact mem_one he hr | cases hr
theorem MGood.ops {i : Mach} (h:MGood i):(1≤i.op∧i.op≤29)∧i.op≠2:=by
 have:=h.op
 omega
theorem takes7_few {i : Mach} (h:MGood i):(takes7 i).length≤4:=by
 have:=h.few
 unfold takes7
 repeat' split
 all_goals first | exact this | (simp only[List.length_cons,List.length_nil];omega)
theorem makes7_few {i : Mach}:(makes7 i).length≤2:=by
 unfold makes7
 repeat' split
 all_goals simp only[List.length_cons,List.length_nil];omega
theorem takes7_in {i : Mach} (h:MGood i):∀ r∈takes7 i,0≤r∧r<10000:=by
 have h1:=h.ops
 have h2:=takes_fields (m:=i) (P:=fun r=>0≤r∧r<10000) h.a h.b h.c h.args (by omega)
 unfold takes at h2
 rw[if_neg h1.2,if_neg (by omega)]at h2
 exact h2
theorem makes7_in {i : Mach} (h:MGood i):∀ r∈makes7 i,0≤r∧r<10000:=by
 have h1:=h.ops
 have h2:=makes_fields (m:=i) (P:=fun r=>0≤r∧r<10000) h.a h.b h.d h.e (by omega)
 unfold makes at h2
 rw[if_neg h1.2,if_neg (by omega)]at h2
 exact h2
theorem nv_good {i : Mach} (h:MGood i) (S:Int):PGood S (nvM i):=by
 have h1:=h.ops
 have h4:=takes7_few h
 have hargs:∀ r∈(nvM i).args,0≤r∧r<4:=by
  intro r hr
  change r∈(if i.op=28 then (List.range (takes7 i).length).map (fun (t:Nat)=>(t:Int)) else []) at hr
  split at hr
  ·obtain⟨t,ht,rfl⟩:=List.mem_map.1 hr
   have:=List.mem_range.1 ht
   omega
  ·cases hr
 have hb:0≤(nvM i).b∧(nvM i).b<4:=by
  show 0≤(if i.op=28 then (0:Int) else if 1<(takes7 i).length then 1 else 0)∧(if i.op=28 then (0:Int) else if 1<(takes7 i).length then 1 else 0)<4
  repeat' split
  all_goals decide
 have hc:0≤(nvM i).c∧(nvM i).c<4:=by
  show 0≤(if i.op=28 then (0:Int) else if 2<(takes7 i).length then 2 else 0)∧(if i.op=28 then (0:Int) else if 2<(takes7 i).length then 2 else 0)<4
  repeat' split
  all_goals decide
 have he:0≤(nvM i).e∧(nvM i).e<4:=by
  show 0≤(if i.op=29 then (1:Int) else 0)∧(if i.op=29 then (1:Int) else 0)<4
  split
  all_goals decide
 have ha:0≤(nvM i).a∧(nvM i).a<4:=by show (0:Int)≤0∧(0:Int)<4;decide
 have hd:0≤(nvM i).d∧(nvM i).d<4:=by show (0:Int)≤0∧(0:Int)<4;decide
 have hop:(nvM i).op=i.op:=rfl
 have him:(nvM i).imm=i.imm:=rfl
 refine⟨?_,badReg_of fun r hr=>?_,fun hs=>?_,?_,?_,?_,?_⟩
 ·unfold shapeB
  rw[hop]
  split
  ·rename_i e
   rw[Bool.and_eq_true,Bool.and_eq_true]
   have hA:(nvM i).args=(List.range (takes7 i).length).map (fun (t:Nat)=>(t:Int)):=if_pos e
   rw[hA]
   refine⟨⟨?_,?_⟩,rfl⟩
   ·rw[List.range_eq_range'];exact placesB_range _ 0
   ·rw[decide_eq_true_eq,List.length_map,List.length_range];exact h4
  ·split
   ·rename_i e
    rw[Bool.and_eq_true]
    refine⟨rfl,?_⟩
    show ((if i.op=29 then (1:Int) else 0)==1)=true
    rw[if_pos e];rfl
   ·rw[Bool.and_eq_true,decide_eq_true_eq,decide_eq_true_eq];omega
 ·unfold regsOf at hr
  rw[hop,if_neg (by omega)]at hr
  rcases List.mem_append.1 hr with hr|hr
  ·exact takes_fields (P:=fun r=>0≤r∧r<4) ha hb hc hargs (by rw[hop];omega) r hr
  ·exact makes_fields (P:=fun r=>0≤r∧r<4) ha hb hd he (by rw[hop];omega) r hr
 ·exfalso
  unfold stackB at hs
  rw[hop,Bool.or_eq_true,beq_iff_eq,beq_iff_eq]at hs
  omega
 ·have ho:=h.op
  unfold immB
  rw[hop,him]
  repeat' split
  all_goals first | rfl | (rw[Bool.and_eq_true,decide_eq_true_eq,decide_eq_true_eq];omega)
 ·exact h.imm.1
 ·exact h.imm.2
 ·show (if i.op=28 then (List.range (takes7 i).length).map (fun (t:Nat)=>(t:Int)) else []).length≤1000
  split
  ·rw[List.length_map,List.length_range];omega
  ·decide
theorem sameEnd_refl (e:EndV):sameEndB e e=true:=by unfold sameEndB numsB;simp
theorem blocks_self {p q:BlkV} (h1:q.ins=p.ins) (h2:q.fin=p.fin):(blocksE p q).2=true:=by
 rw[blocks_iff,h1,h2]
 exact⟨rfl,.refl _,sameEnd_refl _⟩
structure BGood (S:Int) (n:Nat) (b:BlkV):Prop where
 ins:∀ x∈b.ins,PGood S x.m
 fin:EGood n b.fin
structure PrgGood (p:PrgV):Prop where
 params:0≤p.params∧p.params≤4
 k:4≤p.k∧p.k≤16
 slots:0≤p.slots∧p.slots≤16000
 blocks:1≤p.blocks.length∧p.blocks.length≤9
 total:ptotal p.blocks≤40000
 each:∀ b∈p.blocks,BGood p.slots p.blocks.length b
 src:∀ b∈p.blocks,∀ x∈b.ins,-1≤x.src∧x.src≤5000
theorem PrgGood.right {p : PrgV} (h:PrgGood p):rightB p=true:=right_of h.params h.k ⟨h.slots.1,by have:=h.slots;omega⟩ ⟨h.blocks.1,by have:=h.blocks;omega⟩ (by have:=h.total;omega) fun b hb=>⟨(h.each b hb).ins,(h.each b hb).fin⟩
open Go.RowKit Go.ChangeShapes Go.WideShapes
theorem own_cellAt {α:Type} {f : α→List Value} {sz:Nat} (hf:∀ x,(f x).length=sz) {B g cap n:Nat} {e : TypeId} {w : World} {l : List α} (h:OwnRow f sz e B w (.slice (some ⟨g,0,none⟩) n cap) l) {b : Nat} {x : α} (hb:l[b]? = some x):(∀ t,t<sz→w.cell? ⟨g,b*sz+t,none⟩=(f x)[t]?)∧g<w.heap.size∧∀ j,w.frozen? ⟨g,j,none⟩=false:=by
 rcases OwnRow.cells hf h with ⟨h1,h2⟩|⟨g2,cap2,h1,h2,h3,h4,h5,h6⟩
 ·rw[h2]at hb;cases hb
 ·cases h1
  obtain⟨cur,hc⟩:=own_heap (show w.ownsRow _ _ _ _ _ _ from h) (q:=g) rfl
  exact⟨fun t ht=>h6 b t x hb ht,(Array.getElem?_eq_some_iff.1 hc).1,fun j=>HeapIs.frozen (show HeapIs w g cur e from hc) j⟩
theorem okWide_lt {P : Program} {w : World} {r : Reach} {base:Nat} {t e:TypeId} {v : Value} (ht:P.underlying t=some (.slice e)) (h:Value.okWide P w r base t v):∀ q,v.ownBlock=some q→q<w.heap.size:=by
 obtain⟨a,len,cap,rfl⟩:=okWide_slice ht h
 intro q hq
 cases a with
 | none=>cases hq
 | some a =>
  have h2:len≤cap∧(cap:Int)≤IntKind.i64.max∧w.has P r base a e cap:=by
   simp only[Value.okWide,ht,Cell.okWide]at h
   simpa [Cell.ok,ht]using h
  obtain⟨_,_,_,_,row,cells,hs,_⟩:=h2
  obtain rfl:a.block=q:=Option.some.inj hq
  unfold World.shape? at hs
  by_cases hlt:a.block<w.heap.size
  ·exact hlt
  ·rw[Array.getElem?_eq_none (by omega)]at hs
   cases hs
theorem flat_set9:∀ (l:List PlV) (b:Nat) (X:PlV),b<l.length →
  (((((((((l.flatMap plcells).set (b*9) (.int .i64 X.m.op)).set (b*9+1) (.int .i64 X.m.d)).set (b*9+2) (.int .i64 X.m.e)).set (b*9+3) (.int .i64 X.m.a)).set (b*9+4) (.int .i64 X.m.b)).set (b*9+5) (.int .i64 X.m.c)).set (b*9+6) (.int .i32 X.m.imm)).set (b*9+7) X.av).set (b*9+8) (.int .i64 X.src)=(l.set b X).flatMap plcells
 | [],b,X,h=>absurd h (by simp)
 | a::r,0,X,_=>by
  rw[List.flatMap_cons,List.set_cons_zero,List.flatMap_cons]
  simp only[plcells,List.cons_append,List.nil_append,Nat.zero_mul,Nat.zero_add,List.set_cons_zero,List.set_cons_succ]
 | a::r,b+1,X,h=>by
  have hb:b<r.length:=by simpa using h
  have e:∀ (t:Nat) (L:List Value) (v:Value),(plcells a++L).set ((b+1)*9+t) v=plcells a++L.set (b*9+t) v:=fun t L v=>by
   rw[List.set_append_right _ _ (by rw[plcells_len];omega),plcells_len,show (b+1)*9+t-9=b*9+t from by omega]
  have e0:∀ (L:List Value) (v:Value),(plcells a++L).set ((b+1)*9) v=plcells a++L.set (b*9) v:=fun L v=>e 0 L v
  rw[List.flatMap_cons,e0,e,e,e,e,e,e,e,e,flat_set9 r b X hb]
  rfl
theorem row_setPl {B : Nat} {w : World} {g cap n:Nat} {l : List PlV} {b : Nat} (X:PlV) (h:OwnRow plcells 9 58 B w (.slice (some ⟨g,0,none⟩) n cap) l) (hb:b<l.length) :
  OwnRow plcells 9 58 B (((((((((w.setCell ⟨g,b*9,none⟩ (.int .i64 X.m.op)).setCell ⟨g,b*9+1,none⟩ (.int .i64 X.m.d)).setCell ⟨g,b*9+2,none⟩ (.int .i64 X.m.e)).setCell ⟨g,b*9+3,none⟩ (.int .i64 X.m.a)).setCell ⟨g,b*9+4,none⟩ (.int .i64 X.m.b)).setCell ⟨g,b*9+5,none⟩ (.int .i64 X.m.c)).setCell ⟨g,b*9+6,none⟩ (.int .i32 X.m.imm)).setCell ⟨g,b*9+7,none⟩ X.av).setCell ⟨g,b*9+8,none⟩ (.int .i64 X.src)) (.slice (some ⟨g,0,none⟩) n cap) (l.set b X):=by
 obtain⟨a',c',e⟩:=own_shape (show w.ownsRow _ _ _ _ _ _ from h)
 have hn:n=l.length:=by cases e;rfl
 subst hn
 have h1:=own_setCell (own_setCell (own_setCell (own_setCell (own_setCell (own_setCell (own_setCell (own_setCell (own_setCell (show w.ownsRow _ _ _ _ _ _ from h) (b*9) (.int .i64 X.m.op)) (b*9+1) (.int .i64 X.m.d)) (b*9+2) (.int .i64 X.m.e)) (b*9+3) (.int .i64 X.m.a)) (b*9+4) (.int .i64 X.m.b)) (b*9+5) (.int .i64 X.m.c)) (b*9+6) (.int .i32 X.m.imm)) (b*9+7) X.av) (b*9+8) (.int .i64 X.src)
 rw[flat_set9 l b X hb]at h1
 unfold OwnRow
 rw[List.length_set]
 exact h1
theorem RowIn.each_of {α:Type} {f : α→List Value} {sz:Nat} {p : World→α→Prop} {w : World} {v : Value} {l : List α} (h:RowIn f sz p w v l):∀ y∈l,p w y:=by
 intro y hy
 rcases h with ⟨_,_,h2⟩|⟨b,off,cap,_,_,_,_,h5⟩
 ·rw[h2]at hy;cases hy
 ·obtain⟨j,hj⟩:=List.getElem?_of_mem hy
  exact (h5 j y hj).2
theorem pls_one {w : World} {v : Value} {l : List PlV} (h:Pls w v l):∀ u∈l.flatMap plcells,u.oneCell'=true:=by
 intro u hu
 obtain⟨z,hz,hu2⟩:=List.mem_flatMap.1 hu
 have hyin:=RowIn.each_of h z hz
 obtain⟨a1,c1,e1⟩:=nums_lenI hyin.1
 simp only[plcells,List.mem_cons,List.not_mem_nil,or_false]at hu2
 rcases hu2 with rfl|rfl|rfl|rfl|rfl|rfl|rfl|rfl|rfl<;>first|rfl|(rw[e1];rfl)
theorem pls_src {w : World} {v : Value} {l : List PlV} (h:Pls w v l):SrcIs w v l.length (l.flatMap plcells):=srcRow plcells_len (by decide) h
theorem pls_flat (l:List PlV):(l.flatMap plcells).length=l.length*9:=flat_sz plcells 9 plcells_len l
theorem blks_one {w : World} {v : Value} {l : List BlkV} (h:Blks w v l):∀ u∈l.flatMap blcells,u.oneCell'=true:=by
 intro u hu
 obtain⟨z,hz,hu2⟩:=List.mem_flatMap.1 hu
 have hyin:=RowIn.each_of h z hz
 obtain⟨a1,c1,e1,_⟩:=RowIn.shape (show Pls w z.insv z.ins from hyin.1)
 obtain⟨a2,c2,e2⟩:=nums_lenI hyin.2.1
 simp only[blcells,List.mem_cons,List.not_mem_nil,or_false]at hu2
 rcases hu2 with rfl|rfl|rfl|rfl|rfl|rfl<;>first|rfl|(rw[e1];rfl)|(rw[e2];rfl)
theorem blks_src {w : World} {v : Value} {l : List BlkV} (h:Blks w v l):SrcIs w v l.length (l.flatMap blcells):=srcRow blcells_len (by decide) h
theorem blks_flat (l:List BlkV):(l.flatMap blcells).length=l.length*6:=flat_sz blcells 6 blcells_len l
theorem own_pls_at {B : Nat} {w : World} {v : Value} {l : List PlV} {n : Nat} (h:w.ownsRow B 58 9 v n (l.flatMap plcells)) (hn:l.length=n) (hp:0<n):∃ g c,v=.slice (some ⟨g,0,none⟩) n c∧B≤g∧g<w.heap.size∧OwnRow plcells 9 58 B w (.slice (some ⟨g,0,none⟩) n c) l:=by
 subst hn
 rcases OwnRow.cells plcells_len (show OwnRow plcells 9 58 B w v l from h) with ⟨h1,h2⟩|⟨g,c,h1,_,_,h4,h5,_⟩
 ·rw[h2]at hp;exact absurd hp (by simp)
 ·subst h1
  exact⟨g,c,rfl,h4,h5,h⟩
theorem own_blks_at {B : Nat} {w : World} {v : Value} {l : List BlkV} {n : Nat} (h:w.ownsRow B 56 6 v n (l.flatMap blcells)) (hn:l.length=n) (hp:0<n):∃ g c,v=.slice (some ⟨g,0,none⟩) n c∧B≤g∧g<w.heap.size∧OwnRow blcells 6 56 B w (.slice (some ⟨g,0,none⟩) n c) l:=by
 subst hn
 rcases OwnRow.cells blcells_len (show OwnRow blcells 6 56 B w v l from h) with ⟨h1,h2⟩|⟨g,c,h1,_,_,h4,h5,_⟩
 ·rw[h2]at hp;exact absurd hp (by simp)
 ·subst h1
  exact⟨g,c,rfl,h4,h5,h⟩
def machZ:Mach:=⟨0,0,0,0,0,0,0,[]⟩
structure SwapP (p q:PrgV) (x y:Mach):Prop where
 params:q.params=p.params
 k:q.k=p.k
 slots:q.slots=p.slots
 how:(q.blocks=p.blocks∧x=machZ∧y=machZ)∨∃ (b:Nat) (u v:List PlV) (X Y:PlV) (blk blk':BlkV),p.blocks[b]? = some blk∧blk.ins=u++X::Y::v∧q.blocks=p.blocks.set b blk'∧blk'.ins=u++Y::X::v∧blk'.fin=blk.fin∧x=X.m∧y=Y.m
theorem op_pos {S : Int} {m : Mach} (h:PGood S m):m.op≠0:=by
 intro e
 have h1:=h.shape
 unfold shapeB at h1
 rw[e]at h1
 simp at h1
theorem swap_right {p q:PrgV} {x y:Mach} (hp:PrgGood p) (h:SwapP p q x y):PrgGood q:=by
 obtain⟨params,k,slots,hc⟩:=h
 rcases hc with ⟨hb,_,_⟩|⟨b,u,v,X,Y,blk,blk',hb,hi,hq,hi',hf,rfl,rfl⟩
 ·exact⟨by rw[params];exact hp.params,by rw[k];exact hp.k,by rw[slots];exact hp.slots,by rw[hb];exact hp.blocks,by rw[hb];exact hp.total,by rw[hb,slots];exact hp.each,by rw[hb];exact hp.src⟩
 ·have hm:blk∈p.blocks:=List.mem_of_getElem? hb
  have hlt:=(List.getElem?_eq_some_iff.1 hb).1
  have hsub:∀ z∈blk'.ins,z∈blk.ins:=by
   intro z hz
   rw[hi']at hz
   rw[hi]
   simp only[List.mem_append,List.mem_cons]at hz ⊢
   rcases hz with hz|hz|hz|hz
   ·exact .inl hz
   ·exact .inr (.inr (.inl hz))
   ·exact .inr (.inl hz)
   ·exact .inr (.inr (.inr hz))
  have hlen:blk'.ins.length=blk.ins.length:=by rw[hi',hi];simp
  refine⟨by rw[params];exact hp.params,by rw[k];exact hp.k,by rw[slots];exact hp.slots,by rw[hq,List.length_set];exact hp.blocks,?_,?_,?_⟩
  ·have h1:=hp.total
   have h2:∀ (l:List BlkV) (b:Nat),l[b]? = some blk→ptotal (l.set b blk')=ptotal l:=by
    intro l
    induction l with
    | nil=>intro b h;cases h
    | cons a r ih =>
     intro b h
     cases b with
     | zero=>cases h;unfold ptotal;simp only[List.set_cons_zero,List.length_cons,List.map_cons,List.sum_cons,hlen]
     | succ b =>
      have:=ih b h
      unfold ptotal at this ⊢
      simp only[List.set_cons_succ,List.length_cons,List.map_cons,List.sum_cons,List.length_set]at this ⊢
      omega
   rw[hq,h2 p.blocks b hb];exact h1
  ·intro c hc
   rw[hq]at hc ⊢
   rw[List.length_set,slots]
   rcases List.mem_or_eq_of_mem_set hc with hc|rfl
   ·exact hp.each c hc
   ·exact⟨fun z hz=>(hp.each blk hm).ins z (hsub z hz),by rw[hf];exact (hp.each blk hm).fin⟩
  ·intro c hc z hz
   rw[hq]at hc
   rcases List.mem_or_eq_of_mem_set hc with hc|rfl
   ·exact hp.src c hc z hz
   ·exact hp.src blk hm z (hsub z hz)
theorem turns_of {p q:PrgV} {b : Nat} {blk blk':BlkV} (h1:q.params=p.params) (h2:q.k=p.k) (h3:q.slots=p.slots) (hb:p.blocks[b]? = some blk) (hq:q.blocks=p.blocks.set b blk') (h:(blocksE blk blk').2=true):Turns p q:=by
 have hlt:=(List.getElem?_eq_some_iff.1 hb).1
 refine⟨by unfold headB;rw[h1,h2,h3,hq];simp,fun t a c ha hc=>?_⟩
 by_cases ht:t=b
 ·subst ht
  rw[hq,List.getElem?_set_self hlt]at hc
  rw[hb]at ha
  cases ha;cases hc
  exact h
 ·rw[hq,List.getElem?_set_ne (by omega),ha]at hc
  cases hc
  exact blocks_self rfl rfl
theorem beside_law {p q:PrgV} {x y:Mach} (hp:PrgGood p) (h:SwapP p q x y) :
  (x.op=0→y.op=0→(checkE p q).1=0)∧((x.op≠0∨y.op≠0)→((checkE p q).1=50∧dependsB x y=true∧sameM x y=false)∨((checkE p q).1=0∧dependsB x y=false)∨sameM x y=true):=by
 have hr:=hp.right
 have hr2:=(swap_right hp h).right
 obtain⟨params,k,slots,hc⟩:=h
 rcases hc with ⟨hb,rfl,rfl⟩|⟨b,u,v,X,Y,blk,blk',hb,hi,hq,hi',hf,rfl,rfl⟩
 ·refine⟨fun _ _=>(checkE_ok hr hr2).2 ⟨by unfold headB;rw[params,k,slots,hb];simp,fun t a c ha hc=>?_⟩,fun h=>by rcases h with h | h<;>exact absurd rfl h⟩
  rw[hb,ha]at hc
  cases hc
  exact blocks_self rfl rfl
 ·have hm:blk∈p.blocks:=List.mem_of_getElem? hb
  have hlt:=(List.getElem?_eq_some_iff.1 hb).1
  have hx:=op_pos ((hp.each blk hm).ins X (by rw[hi];simp))
  refine⟨fun h0=>absurd h0 hx,fun _=>?_⟩
  have hs:∀ a b:Key,kdep a b=kdep b a:=fun a b=>dep_comm a.1 b.1
  have hmap:blk.ins.map key=u.map key++key X::key Y::v.map key:=by rw[hi];simp
  have hmap':blk'.ins.map key=u.map key++key Y::key X::v.map key:=by rw[hi'];simp
  cases hd:dependsB X.m Y.m with
  | true =>
   cases hsm:sameM X.m Y.m with
   | true=>exact .inr (.inr rfl)
   | false =>
    refine .inl ⟨?_,rfl,rfl⟩
    rcases checkE_or hr hr2 with h|h
    ·exfalso
     have h1:=((checkE_ok hr hr2).1 h).2 b blk blk' hb (by rw[hq,List.getElem?_set_self hlt])
     obtain⟨_,h2,_⟩:=(blocks_iff blk blk').1 h1
     rw[hmap,hmap']at h2
     have h3:=TE.beside hs (show kdep (key X) (key Y)=true from hd) h2
     have h4:X.m=Y.m:=congrArg Prod.fst h3
     rw[(sameM_iff _ _).2 h4]at hsm
     cases hsm
    ·exact h
  | false =>
   refine .inr (.inl ⟨(checkE_ok hr hr2).2 (turns_of params k slots hb hq ?_),rfl⟩)
   rw[blocks_iff,hmap,hmap',hf]
   exact⟨by rw[hi',hi];simp,.swap _ _ _ _ hd ((hs _ _).trans hd),sameEnd_refl _⟩
theorem getD_some {α:Type} {l : List α} {k : Nat} {x d:α} (h:l[k]? = some x):l.getD k d=x:=by rw[List.getD_eq_getElem?_getD,h];rfl
end Go.Proofs.Ytkpbmbhejpmboaa
