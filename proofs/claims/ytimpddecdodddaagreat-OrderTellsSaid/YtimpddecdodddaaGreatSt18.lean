import Derived.Test.YtimpddecdodddaaGreatSt07
import Derived.Test.YtimpddecdodddaaGreatSt14
import Derived.Test.YtimpddecdodddaaGreatSt15
import Derived.Test.YtimpddecdodddaaGreatSt17
namespace Go.Proofs.YtimpddecdodddaaGreat
open Go.Proofs.Tryz Go.RowKit Go.Lib
set_option linter.unusedVariables false
set_option maxHeartbeats 1000000
set_option maxRecDepth 100000
theorem zV {P:Prop} (h:P:=by
 rintro e w3 ⟨m3,⟨rfl,hy,hw⟩,h3,mv3⟩;have H3:=hid h3;have MV3:=hid (MV2.out.trans mv3);have SM3:=hid (SM2.out.mv mv3);have A3:=hid (A2.out.mv mv3);clear h3 mv3 hy hw;go_wp2_with fail
 go_end0
 refine⟨_,?_,H3.out,MV3.out.more⟩;exact rfl):P:=h
theorem z9 {P:Prop} (h:P:=by
 rintro e w2 ⟨m2,rfl,h2,mv2⟩;have H2:=hid h2;have MV2:=hid (MV1.out.trans mv2);have SM2:=hid (SM1.out.mv mv2);have A2:=hid (A1.out.mv mv2);clear h2 mv2;go_wp2_with fail
 go_end0
 refine⟨_,?_,H2.out,MV2.out.more⟩;exact rfl):P:=h
theorem qI {P:Prop} (h:P:=by
 have hd:HeapIs w2 xb #[_,_,_,_,_] 180:=(A1.out.keep hs).box;dsimp only at hd;have hc:=hd.cell 1;have hl:=hd.lt;clear hd;go_wp2
 exact⟨_,rfl,rfl,.refl _⟩):P:=h
theorem qJ {P:Prop} (h:P:=by
 have hd:HeapIs w2 xb #[_,_,_,_,_] 180:=(A1.out.keep hs).box;dsimp only at hd;have hc:=hd.cell 3;have hl:=hd.lt;clear hd;go_wp2
 exact⟨_,rfl,rfl,.refl _⟩):P:=h
theorem jr {P:Prop} (h:P:=by have h1:=Int.tmod_lt_of_pos x hn;have h2:=Int.tmod_lt_of_pos (-x) hn;rw[Int.neg_tmod]at h2;omega):P:=h
theorem jz {P:Prop} (h:P:=by
 have hz:=hs.size;clear hk;go_wp2
 exact⟨_,rfl,IsNilOf.new hz,(Since.refl _).alloc _⟩):P:=h
theorem kA {P:Prop} (h:P:=by unfold OwnRow;rw[List.length_set];exact h1):P:=h
def IsNilOf (e:TypeId) (w0:World) (v:Value) (w:World):Prop:=∃ b,v=.slice (some ⟨b,0,none⟩) 0 0∧w0.heap.size≤b∧w.heap[b]? = some (.cells #[] e (0,0))
theorem ZeA {w : World} {b : Nat} {o : Obj} (h:w.heap[b]? = some o):b<w.heap.size:=(Array.getElem?_eq_some_iff.1 h).1
theorem IsNilOf.stable (e:TypeId) (w0:World):ZH (IsNilOf e w0):=fun v w w' ⟨b,h1,h2,h3⟩ s=>⟨b,h1,h2,(s.block b (ZeA h3)).trans h3⟩
theorem IsNilOf.new {e : TypeId} {w0 w:World} (h:w0.heap.size≤w.heap.size):IsNilOf e w0 (.slice (some ⟨w.heap.size,0,none⟩) 0 0) (w.alloc (.cells #[] e)):=⟨_,rfl,h,ZG _ _⟩
theorem IsNilOf.owns {e : TypeId} {w0 w:World} {v : Value} (h:IsNilOf e w0 v w) (sz:Nat):w.ownsRow w0.heap.size e sz v 0 []:=by
 obtain⟨b,rfl,h2,h3⟩:=h;exact⟨by simp,.inr ⟨b,0,#[],rfl,h2,h3,by simp,by unfold maxLen;omega,by simp,by simp⟩⟩
theorem Zat {w : World} {g : Nat} {cur:Array Value} {t : TypeId} (h:w.heap[g]? = some (.cells cur t (0,0))):Since w (w.setRow g cur):=by
 refine⟨rfl,rfl,rfl,by simp[World.setRow],fun k hk=>?_⟩;by_cases e:k=g
 ·subst e;rw[h];simp[World.setRow,Array.getElem?_modify,h]
 ·have e2:¬ g=k:=fun e3=>e e3.symm
  simp[World.setRow,Array.getElem?_modify,e2]
theorem Kz {P : Program} {w0 w:World} {t ty e:TypeId} {i : TypeInfo} {z : Value} {sz bytes:Nat} (ht:P.underlying t=some (.slice e)) (hi:P.info? e=some i) (hf:i.zero=some z) (he:i.size=sz) (hd:i.bytes=bytes) (hz:z.cells.size=sz) (hj:0<sz) (hn:bytes≤1000)
  {v : Value} (hv:IsNilOf e w0 v w) (hk:w0.heap.size≤w.heap.size) (a:Addr) (m c:Nat) (xs:List Value) (hl:xs.length=m*sz) (hc:∀ (j:Nat) (u:Value),xs[j]? = some u→w.cell? (a.add j)=some u) (h1:∀ u∈xs,u.oneCell'=true) (ho:m≤100000) :
  ∃ v' w',(Builtin.append_ #[t,t] ty #[v,.slice (some a) m c]).run P w=.ok v' w'∧w'.ownsRow w0.heap.size e sz v' m xs∧Since w w':=by
 have hg:(0+m)*bytes≤140737488355328:=by
  have:=Nat.mul_le_mul (show 0+m≤100000 by omega) hn;omega
 obtain⟨v',w',hr,h2,_,_⟩:=run_append_own w w0.heap.size t ty e i z sz bytes ht hi hf he hd hz hj v 0 [] (hv.owns sz) a m c xs hl hc h1 zaq hg hk;refine⟨v',w',hr,by simpa using h2,?_⟩;obtain⟨b,rfl,hb,hh⟩:=hv;by_cases hm:m=0
 ·subst hm;obtain rfl:xs=[]:=List.length_eq_zero_iff.1 (by rw[hl];omega);have ha:=run_append_room (P:=P) w t ty e i ht hi b 0 0 #[] hh a 0 c [] zaL (fun j u h=>by cases h) (fun u h=>by cases h) zaK zaL;rw[hr]at ha
  cases ha
  have e:(List.take (0*i.size) (#[]:Array Value).toList++[]++List.drop (0*i.size+([]:List Value).length) (#[]:Array Value).toList).toArray=#[]:=by simp
  rw[e];exact Zat hh
 ·have ha:=run_append_grow (P:=P) w t ty e i z ht hi hf ⟨b,0,none⟩ 0 0 [] zaL (fun j u h=>by cases h) a m c xs (by rw[he];exact hl) hc zaK zaK (growslice_fits zaK (by rw[hd];exact hg));rw[hr]at ha
  cases ha
  exact (Since.refl w).drew.alloc _
def Vu (w:World) (xv:Value) (m:Nat) (xs:List Value):Prop:=(∃ ad,xv=.slice ad 0 0∧m=0∧xs=[])∨∃ ad c,xv=.slice (some ad) m c∧∀ (j:Nat) (u:Value),xs[j]? = some u→w.cell? (ad.add j)=some u
theorem Z7 {P : Program} {w0 w:World} {ops:Array Oper} {rest:List Oper} {o : Oper} {a : Act} {Q : Exit→Act→World→Prop} (he:o.guard=none) (s x:Operand) (t:TypeId)
  (ho:o.op=.call { callee:=.builtin .append,args:=#[s,x],argTypes:=#[t,t] })
  (e:TypeId) (z:Value) (sz bytes:Nat) (ht:P.underlying t=some (.slice e)) (hc:(P.info? e).map (fun i=>(i.zero,i.size,i.bytes))=some (some z,sz,bytes)) (hz:z.cells.size=sz) (hm:0<sz) (hq:bytes≤1000)
  (v xv:Value) (m:Nat) (xs:List Value) (hs:a.eval s=v) (hx:a.eval x=xv) (ha:IsNilOf e w0 v w) (hl:Vu w xv m xs) (hn:xs.length=m*sz) (hf:m≤100000) (h1:∀ u∈xs,u.oneCell'=true) (hp:w0.heap.size≤w.heap.size)
  (h:∀ v' w',w'.ownsRow w0.heap.size e sz v' m xs→Since w w'→wpList P ops Q rest (a.put o.dst v') w'):wpList P ops Q (o::rest) a w:=by
 obtain⟨i,hi,hj,hh,hg⟩:=info_parts hc;have key:∀ (ad:Addr) (c:Nat),a.eval x=.slice (some ad) m c→(∀ (j:Nat) (u:Value),xs[j]? = some u→w.cell? (ad.add j)=some u)→wpList P ops Q (o::rest) a w:=fun ad c hk hb=>by
  refine wpList_plain he fun _ hK=>?_
  obtain⟨v',w',hr,h2,h3⟩:=Kz (P:=P) (t:=t) (ty:=o.type) ht hi hj hh hg hz hm hq ha hp ad m c xs hn hb h1 hf;unfold Oper.wp execOp;simp only[ho,resolve,invoke,builtin,Sem.run_bind,Sem.run_pure,Result.andThen_ok,List.map_toArray,List.map_cons,List.map_nil,hs,hk,hr];exact hK _ _ (h v' w' h2 h3)
 rcases hl with ⟨ad,hv,rfl,rfl⟩|⟨ad,c,hv,hd⟩
 ·cases ad with
  | none=>exact wpList_append_own_none he s x t ho w0.heap.size e i sz ht hi v _ _ hs (ha.owns sz) (hx.trans hv) (h v w (ha.owns sz) (Since.refl w))
  | some ad=>exact key ad 0 (hx.trans hv) (fun j u hu=>by cases hu)
 ·exact key ad c (hx.trans hv) hd
theorem Km (b off j:Nat):(⟨b,off,none⟩:Addr).add j=⟨b,off+j,none⟩:=by
 unfold Addr.add;split
 ·rename_i h0;subst h0;rfl
 ·rfl
theorem VD {k : IntKind} {w : World} {v : Value} {l : List Int} (h:Zy k w v l):Vu w v l.length (l.map (Value.int k)):=by
 rcases h with ⟨ad,hv,rfl⟩|⟨b,off,cap,hv,hc,_,hb,ha⟩
 ·exact .inl ⟨ad,hv,rfl,rfl⟩
 ·refine .inr ⟨⟨b,off,none⟩,cap,hv,fun j u hu=>?_⟩
  rw[List.getElem?_map]at hu;obtain⟨n,hn,rfl⟩:=Option.map_eq_some_iff.1 hu;rw[Km];exact ha j n hn
theorem Jt {α:Type} (f:α→List Value) (sz:Nat) (hf:∀ x,(f x).length=sz) (ha:0<sz):∀ (l:List α) (j:Nat) (u:Value),(l.flatMap f)[j]? = some u→∃ (k t:Nat) (x:α),j=k*sz+t∧l[k]? = some x∧t<sz∧(f x)[t]? = some u
 | [],j,u,h=>by cases h
 | x::r,j,u,h=>by
  rw[List.flatMap_cons]at h
  by_cases hj:j<sz
  ·rw[List.getElem?_append_left (by rw[hf];exact hj)]at h
   exact⟨0,j,x,zaK,rfl,hj,h⟩
  ·rw[List.getElem?_append_right (by rw[hf];omega),hf]at h
   obtain⟨k,t,y,h1,h2,h3,h4⟩:=Jt f sz hf ha r (j-sz) u h
   exact⟨k+1,t,y,by rw[Nat.succ_mul];omega,h2,h3,h4⟩
theorem XD {α:Type} {f : α→List Value} {sz:Nat} (hf:∀ x,(f x).length=sz) (hd:0<sz) {p : World→α→Prop} {w : World} {v : Value} {l : List α} (h:RowIn f sz p w v l):Vu w v l.length (l.flatMap f):=by
 rcases h with ⟨ad,hv,rfl⟩|⟨b,off,cap,hv,he,_,hb,ha⟩
 ·exact .inl ⟨ad,hv,rfl,rfl⟩
 ·refine .inr ⟨⟨b,off,none⟩,cap,hv,fun j u hu=>?_⟩
  obtain⟨k,t,y,rfl,hy,ht,hc⟩:=Jt f sz hf hd l j u hu;have:=(ha k y hy).1 t ht;rw[hc]at this;rw[Km,←Nat.add_assoc];exact this
theorem VG {α:Type} (f:α→List Value) (sz:Nat) (hf:∀ x,(f x).length=sz):∀ l:List α,(l.flatMap f).length=l.length*sz
 | []=>by simp
 | x::r=>by rw[List.flatMap_cons,List.length_append,hf,VG f sz hf r,List.length_cons,Nat.succ_mul];omega
def Yx (e:TypeId) (w0:World) (xs:List Int) (v:Value) (w:World):Prop:=w.ownsRow w0.heap.size e 1 v xs.length (xs.map (Value.int .i64))
theorem Yx.stable (e:TypeId) (w0:World) (xs:List Int):ZH (Yx e w0 xs):=fun v w w' h s=>Zv h s
open Go.RowKit Go.ChangeShapes Go.WideShapes
theorem Q3:∀ (l:List Zx) (b:Nat) (X:Zx),b<l.length →
  ((((((l.flatMap blcells).set (b*6) X.insv).set (b*6+1) (.int .i64 X.fin.op)).set (b*6+2) (.int .i64 X.fin.a)).set (b*6+3) (.int .i64 X.fin.b)).set (b*6+4) X.fin.tov).set (b*6+5) (.int .i32 X.fin.imm)=(l.set b X).flatMap blcells
 | [],b,X,h=>absurd h zaL
 | a::r,0,X,_=>by
  rw[List.flatMap_cons,List.set_cons_zero,List.flatMap_cons]
  simp only[blcells,List.cons_append,List.nil_append,Nat.zero_mul,Nat.zero_add,List.set_cons_zero,List.set_cons_succ]
 | a::r,b+1,X,h=>by
  have hb:b<r.length:=by simpa using h
  have e:∀ (t:Nat) (L:List Value) (v:Value),(blcells a++L).set ((b+1)*6+t) v=blcells a++L.set (b*6+t) v:=fun t L v=>by
   rw[List.set_append_right _ _ (by rw[Z5];omega),Z5,show (b+1)*6+t-6=b*6+t from by omega]
  have e0:∀ (L:List Value) (v:Value),(blcells a++L).set ((b+1)*6) v=blcells a++L.set (b*6) v:=fun L v=>e 0 L v
  rw[List.flatMap_cons,e0,e,e,e,e,e,Q3 r b X hb]
  rfl
theorem ZbP {B : Nat} {w : World} {g cap n:Nat} {l : List Zx} {b : Nat} (X:Zx) (h:OwnRow blcells 6 34 B w (.slice (some ⟨g,0,none⟩) n cap) l) (hb:b<l.length) :
  OwnRow blcells 6 34 B ((((((w.setCell ⟨g,b*6,none⟩ X.insv).setCell ⟨g,b*6+1,none⟩ (.int .i64 X.fin.op)).setCell ⟨g,b*6+2,none⟩ (.int .i64 X.fin.a)).setCell ⟨g,b*6+3,none⟩ (.int .i64 X.fin.b)).setCell ⟨g,b*6+4,none⟩ X.fin.tov).setCell ⟨g,b*6+5,none⟩ (.int .i32 X.fin.imm)) (.slice (some ⟨g,0,none⟩) n cap) (l.set b X):=by
 obtain⟨a',c',e⟩:=Ze (show w.ownsRow _ _ _ _ _ _ from h);have hn:n=l.length:=by cases e;rfl
 subst hn;have h1:=ZV (ZV (ZV (ZV (ZV (ZV (show w.ownsRow _ _ _ _ _ _ from h) (b*6) X.insv) (b*6+1) (.int .i64 X.fin.op)) (b*6+2) (.int .i64 X.fin.a)) (b*6+3) (.int .i64 X.fin.b)) (b*6+4) X.fin.tov) (b*6+5) (.int .i32 X.fin.imm);rw[Q3 l b X hb]at h1;exact kA
theorem Xv {α:Type} {f : α→List Value} {sz:Nat} (hf:∀ x,(f x).length=sz) {B g cap n:Nat} {e : TypeId} {w : World} {l : List α} (h:OwnRow f sz e B w (.slice (some ⟨g,0,none⟩) n cap) l) {b : Nat} {x : α} (hb:l[b]? = some x):(∀ t,t<sz→w.cell? ⟨g,b*sz+t,none⟩=(f x)[t]?)∧g<w.heap.size∧∀ j,w.frozen? ⟨g,j,none⟩=false:=by
 rcases OwnRow.cells hf h with ⟨h1,h2⟩|⟨g2,cap2,h1,h2,h3,h4,h5,h6⟩
 ·rw[h2]at hb;cases hb
 ·cases h1
  obtain⟨cur,hc⟩:=Wt (show w.ownsRow _ _ _ _ _ _ from h) (q:=g) rfl;exact⟨fun t ht=>h6 b t x hb ht,(Array.getElem?_eq_some_iff.1 hc).1,fun j=>HeapIs.frozen (show HeapIs w g cur e from hc) j⟩
theorem ZcM {P : Program} {w : World} {r : Reach} {base:Nat} {t e:TypeId} {v : Value} (ht:P.underlying t=some (.slice e)) (h:Value.okWide P w r base t v):∀ q,v.ownBlock=some q→q<w.heap.size:=by
 obtain⟨a,len,cap,rfl⟩:=okWide_slice ht h;intro q hq
 cases a with
 | none=>cases hq
 | some a =>
  have h2:len≤cap∧(cap:Int)≤IntKind.i64.max∧w.has P r base a e cap:=by
   simp only[Value.okWide,ht,Cell.okWide]at h;simpa [Cell.ok,ht]using h
  obtain⟨_,_,_,_,row,cells,hs,_⟩:=h2;obtain rfl:a.block=q:=Option.some.inj hq;unfold World.shape? at hs;by_cases ha:a.block<w.heap.size
  ·exact ha
  ·rw[Array.getElem?_eq_none zaK]at hs
   cases hs
theorem Q2:∀ (l:List PlV) (b:Nat) (X:PlV),b<l.length →
  (((((((((l.flatMap plcells).set (b*9) (.int .i64 X.m.op)).set (b*9+1) (.int .i64 X.m.d)).set (b*9+2) (.int .i64 X.m.e)).set (b*9+3) (.int .i64 X.m.a)).set (b*9+4) (.int .i64 X.m.b)).set (b*9+5) (.int .i64 X.m.c)).set (b*9+6) (.int .i32 X.m.imm)).set (b*9+7) X.av).set (b*9+8) (.int .i64 X.src)=(l.set b X).flatMap plcells
 | [],b,X,h=>absurd h zaL
 | a::r,0,X,_=>by
  rw[List.flatMap_cons,List.set_cons_zero,List.flatMap_cons]
  simp only[plcells,List.cons_append,List.nil_append,Nat.zero_mul,Nat.zero_add,List.set_cons_zero,List.set_cons_succ]
 | a::r,b+1,X,h=>by
  have hb:b<r.length:=by simpa using h
  have e:∀ (t:Nat) (L:List Value) (v:Value),(plcells a++L).set ((b+1)*9+t) v=plcells a++L.set (b*9+t) v:=fun t L v=>by
   rw[List.set_append_right _ _ (by rw[Zq];omega),Zq,show (b+1)*9+t-9=b*9+t from by omega]
  have e0:∀ (L:List Value) (v:Value),(plcells a++L).set ((b+1)*9) v=plcells a++L.set (b*9) v:=fun L v=>e 0 L v
  rw[List.flatMap_cons,e0,e,e,e,e,e,e,e,e,Q2 r b X hb]
  rfl
theorem ZaT:∀ (l:List PlV) (b:Nat) (y:PlV) (z:Int),l[b]? = some y→(l.flatMap plcells).set (b*9+8) (.int .i64 z)=(l.set b ⟨y.m,y.av,z⟩).flatMap plcells
 | [],b,y,z,h=>by cases h
 | a::r,0,y,z,h=>by
  cases h
  rw[List.flatMap_cons,List.set_cons_zero,List.flatMap_cons]
  simp only[plcells,List.cons_append,List.nil_append,Nat.zero_mul,Nat.zero_add,List.set_cons_zero,List.set_cons_succ]
 | a::r,b+1,y,z,h=>by
  rw[List.flatMap_cons,List.set_append_right _ _ (by rw[Zq];omega),Zq,show (b+1)*9+8-9=b*9+8 from by omega,ZaT r b y z h]
  rfl
theorem ZbO {B : Nat} {w : World} {g cap n:Nat} {l : List PlV} {b : Nat} {y : PlV} (z:Int) (h:OwnRow plcells 9 38 B w (.slice (some ⟨g,0,none⟩) n cap) l) (hb:l[b]? = some y) :
  OwnRow plcells 9 38 B (w.setCell ⟨g,b*9+8,none⟩ (.int .i64 z)) (.slice (some ⟨g,0,none⟩) n cap) (l.set b ⟨y.m,y.av,z⟩):=by
 obtain⟨a',c',e⟩:=Ze (show w.ownsRow _ _ _ _ _ _ from h);have hn:n=l.length:=by cases e;rfl
 subst hn;have h1:=ZV (show w.ownsRow _ _ _ _ _ _ from h) (b*9+8) (.int .i64 z);rw[ZaT l b y z hb]at h1;exact kA
theorem Jg {B : Nat} {w : World} {g cap n:Nat} {l : List PlV} {b : Nat} (X:PlV) (h:OwnRow plcells 9 38 B w (.slice (some ⟨g,0,none⟩) n cap) l) (hb:b<l.length) :
  OwnRow plcells 9 38 B (((((((((w.setCell ⟨g,b*9,none⟩ (.int .i64 X.m.op)).setCell ⟨g,b*9+1,none⟩ (.int .i64 X.m.d)).setCell ⟨g,b*9+2,none⟩ (.int .i64 X.m.e)).setCell ⟨g,b*9+3,none⟩ (.int .i64 X.m.a)).setCell ⟨g,b*9+4,none⟩ (.int .i64 X.m.b)).setCell ⟨g,b*9+5,none⟩ (.int .i64 X.m.c)).setCell ⟨g,b*9+6,none⟩ (.int .i32 X.m.imm)).setCell ⟨g,b*9+7,none⟩ X.av).setCell ⟨g,b*9+8,none⟩ (.int .i64 X.src)) (.slice (some ⟨g,0,none⟩) n cap) (l.set b X):=by
 obtain⟨a',c',e⟩:=Ze (show w.ownsRow _ _ _ _ _ _ from h);have hn:n=l.length:=by cases e;rfl
 subst hn;have h1:=ZV (ZV (ZV (ZV (ZV (ZV (ZV (ZV (ZV (show w.ownsRow _ _ _ _ _ _ from h) (b*9) (.int .i64 X.m.op)) (b*9+1) (.int .i64 X.m.d)) (b*9+2) (.int .i64 X.m.e)) (b*9+3) (.int .i64 X.m.a)) (b*9+4) (.int .i64 X.m.b)) (b*9+5) (.int .i64 X.m.c)) (b*9+6) (.int .i32 X.m.imm)) (b*9+7) X.av) (b*9+8) (.int .i64 X.src);rw[Q2 l b X hb]at h1;exact kA
theorem RowIn.each_of {α:Type} {f : α→List Value} {sz:Nat} {p : World→α→Prop} {w : World} {v : Value} {l : List α} (h:RowIn f sz p w v l):∀ y∈l,p w y:=by
 intro y hy;rcases h with ⟨_,_,h2⟩|⟨b,off,cap,_,_,_,_,h5⟩
 ·rw[h2]at hy;cases hy
 ·obtain⟨j,hj⟩:=List.getElem?_of_mem hy;exact (h5 j y hj).2
theorem Zbs {w : World} {v : Value} {l : List PlV} (h:Pls w v l):∀ u∈l.flatMap plcells,u.oneCell'=true:=by
 intro u hu;obtain⟨z,hz,ha⟩:=List.mem_flatMap.1 hu;have hb:=RowIn.each_of h z hz;obtain⟨a1,c1,e1⟩:=Zc hb.1;simp only[plcells,List.mem_cons,List.not_mem_nil,or_false]at ha;rcases ha with rfl|rfl|rfl|rfl|rfl|rfl|rfl|rfl|rfl<;>first|rfl|(rw[e1];rfl)
theorem Zbr {w : World} {v : Value} {l : List PlV} (h:Pls w v l):Vu w v l.length (l.flatMap plcells):=XD Zq zaJ h
theorem Zax (l:List PlV):(l.flatMap plcells).length=l.length*9:=VG plcells 9 Zq l
theorem ZaZ {w : World} {v : Value} {l : List Zx} (h:Za5 w v l):∀ u∈l.flatMap blcells,u.oneCell'=true:=by
 intro u hu;obtain⟨z,hz,hb⟩:=List.mem_flatMap.1 hu;have ha:=RowIn.each_of h z hz;obtain⟨a1,c1,e1,_⟩:=RowIn.shape (show Pls w z.insv z.ins from ha.1);obtain⟨a2,c2,e2⟩:=Zc ha.2.1;simp only[blcells,List.mem_cons,List.not_mem_nil,or_false]at hb;rcases hb with rfl|rfl|rfl|rfl|rfl|rfl<;>first|rfl|(rw[e1];rfl)|(rw[e2];rfl)
theorem ZaY {w : World} {v : Value} {l : List Zx} (h:Za5 w v l):Vu w v l.length (l.flatMap blcells):=XD Z5 zaJ h
theorem Q9 (l:List Zx):(l.flatMap blcells).length=l.length*6:=VG blcells 6 Z5 l
theorem KK {B : Nat} {w : World} {v : Value} {l : List PlV} {n : Nat} (h:w.ownsRow B 38 9 v n (l.flatMap plcells)) (hn:l.length=n) (hp:0<n):∃ g c,v=.slice (some ⟨g,0,none⟩) n c∧B≤g∧g<w.heap.size∧OwnRow plcells 9 38 B w (.slice (some ⟨g,0,none⟩) n c) l:=by
 subst hn;rcases OwnRow.cells Zq (show OwnRow plcells 9 38 B w v l from h) with ⟨h1,h2⟩|⟨g,c,h1,_,_,h4,h5,_⟩
 ·rw[h2]at hp;exact absurd hp zaL
 ·subst h1;exact⟨g,c,rfl,h4,h5,h⟩
theorem JZ {B : Nat} {w : World} {v : Value} {l : List Zx} {n : Nat} (h:w.ownsRow B 34 6 v n (l.flatMap blcells)) (hn:l.length=n) (hp:0<n):∃ g c,v=.slice (some ⟨g,0,none⟩) n c∧B≤g∧g<w.heap.size∧OwnRow blcells 6 34 B w (.slice (some ⟨g,0,none⟩) n c) l:=by
 subst hn;rcases OwnRow.cells Z5 (show OwnRow blcells 6 34 B w v l from h) with ⟨h1,h2⟩|⟨g,c,h1,_,_,h4,h5,_⟩
 ·rw[h2]at hp;exact absurd hp zaL
 ·subst h1;exact⟨g,c,rfl,h4,h5,h⟩
def plw (x:PlV):Value:=.agg #[.int .i64 x.m.op,.int .i64 x.m.d,.int .i64 x.m.e,.int .i64 x.m.a,.int .i64 x.m.b,.int .i64 x.m.c,.int .i32 x.m.imm,x.av,.int .i64 x.src]
def YA (op reg n:Int):PlV:=⟨Vq op reg n,.slice none 0 0,-1⟩
theorem ZaO (op reg n:Int) (w:World) (ho:op=30∨op=31) (hr:0≤reg∧reg<4) (hn:0≤n∧n<100000) :
  Calls prog 10 #[.int .i64 op,.int .i64 reg,.int .i64 n] w (fun e w'=>e=.returned (plw (YA op reg n))∧Since w w'):=by
 rcases ho with rfl|rfl
 ·go_enter func10,ntmps10
  go_wp2_with fail
  try simp only[Exit.inBlock,Exit.then]
  refine bodyPost_ret (results_cell_row rfl _ _ w.heap.size 38 #[.int .i64 30,.int .i64 reg,.int .i64 0,.int .i64 0,.int .i64 0,.int .i64 0,.int .i32 n,.slice none 0 0,.int .i64 (-1)] (0,0) _ rfl ((HeapIs.new _ _ _).keep ((Since.refl _).alloc _)) underlying38 rfl zaF) rfl ?_;exact⟨rfl,((Since.refl w).alloc _).alloc _⟩
 ·go_enter func10,ntmps10
  go_wp2_with fail
  try simp only[Exit.inBlock,Exit.then]
  refine bodyPost_ret (results_cell_row rfl _ _ w.heap.size 38 #[.int .i64 31,.int .i64 0,.int .i64 0,.int .i64 reg,.int .i64 0,.int .i64 0,.int .i32 n,.slice none 0 0,.int .i64 (-1)] (0,0) _ rfl ((HeapIs.new _ _ _).keep ((Since.refl _).alloc _)) underlying38 rfl zaF) rfl ?_;exact⟨rfl,((Since.refl w).alloc _).alloc _⟩
def VL (w0:World) (dst imm:Int) (xs:List Int) (v:Value) (w:World):Prop:=∃ v8,v=.agg #[.int .i64 28,.int .i64 dst,.int .i64 0,.int .i64 0,.int .i64 0,.int .i64 0,.int .i32 imm,v8]∧Yx 3 w0 xs v8 w
theorem VL.stable (w0:World) (dst imm:Int) (xs:List Int):ZH (VL w0 dst imm xs):=fun v w w' ⟨v8,h1,h2⟩ s=>⟨v8,h1,Yx.stable _ _ _ v8 w w' h2 s⟩
theorem Zb1 {d imm:Int} {args:List Int} (hi:In32 imm) (hd:0≤d∧d<10000) (hl:args.length≤4) (ha:∀ a∈args,0≤a∧a<10000):MGood ⟨28,d,0,0,0,0,imm,args⟩:=
 have h0:(0:Int)≤0∧(0:Int)<10000:=zaJ
 ⟨hi,hl,ha,hd,h0,h0,h0,h0,.inr (.inr (.inr (.inr (.inr (.inr (.inr (.inr (.inr (.inr (.inl rfl)))))))))),.inl rfl⟩
section
variable {C : Nat→Prop} {kb:Nat} {sv:Value} {l : List Int} {m : K7} {w : World}
theorem Ze8 (h:K7Ok C kb sv l m w) (hs:Sm7 40 m) (x:YF) (hx:Zd w x.av x.args∧Stays (ZT C kb m) w x.av) (hg:Ye 700 x) :
  Calls prog 104 #[.pointer (some ⟨kb,0,none⟩),fiv x] w (K7Q C kb sv l w m 4 4 5 fun m' e=>e=.returned (.tuple #[])):=by
 obtain⟨op,dst,tw,args,av,imm⟩:=x;dsimp only at hx hg;have hA:In32 imm:=hg.1;have ho:0≤dst∧dst<10000:=by have h9:=hg.2.2.1;dsimp only at h9;omega
 have hO:0≤tw∧tw<10000:=by have h9:=hg.2.2.2.1;dsimp only at h9;omega
 have hm:∀ a∈args,0≤a∧a<700:=hg.2.1
 have HG:=hid hg;have hv:=hg.2.2.2.2;dsimp only at hv;clear hg;unfold fiv;dsimp only;obtain⟨m0,hG⟩:∃ x,x=m:=⟨_,rfl⟩
 subst hG;obtain⟨w1,hp⟩:∃ z,z=w.alloc (.cells (Z6 ⟨op,dst,tw,args,av,imm⟩).toArray 180):=⟨_,rfl⟩
 have hn:Since w w1:=by rw[hp];exact (Since.refl w).alloc _
 have H1:=hid (h.keep hn);have MV1:=hid ((Mv7.refl kb w m0).keep hn);have SM1:=hid hs;obtain⟨xb,ht⟩:∃ z,z=w.heap.size:=⟨_,rfl⟩
 have A1:=zH (Arg7 C kb xb ⟨op,dst,tw,args,av,imm⟩ m0 w1) ⟨by rw[hp,ht];exact HeapIs.new _ _ _,fun hq=>by have:=h.ltOwn hq;omega,hx.1.keep hn,hx.2.keep hn⟩;clear h hs hx hn;go_enter func104,ntmps104
 go_upto_region 1 with fail
 rw[show (.cells #[.int .i64 op,.int .i64 dst,.int .i64 tw,av,.int .i32 imm] 180:Obj)=.cells (Z6 ⟨op,dst,tw,args,av,imm⟩).toArray 180 from rfl,←hp,←ht];clear hp ht;have hd:HeapIs w1 xb #[_,_,_,_,_] 180:=A1.out.box;dsimp only at hd;have hi:=hd.cell 0;have hj:=hd.lt;clear hd;rcases hv with o|o|o|o|o|o
 ·skip
  obtain⟨o,_⟩:=o;subst o;have hd:HeapIs w1 xb #[_,_,_,_,_] 180:=A1.out.box;dsimp only at hd;have hI:=hd.cell 1;have hH:=hd.cell 4;clear hd;go_wp2_with fail
  clear hi hI hH hj;refine (XZ H1.out (SM1.out.mono zaJ) (dst) ho (imm) hA).mono ?_;exact z9
 ·skip
  obtain⟨⟨o1,o2⟩,he⟩:=o;have hP:=zN op 1;have hN:=zN op 15;have hM:=zN op 16;have hL:=zN op 17;have hK:=zN op 18;go_wp2_with (refine wpList_load_row rfl _ _ rfl xb rfl 180 _ (0,0) _ A1.out.box underlying180 rfl zaF ?_)
  clear hi hj;refine (Ze7 H1.out (SM1.out.mono zaJ) ⟨op,dst,tw,args,av,imm⟩ A1.out.args HG.out he ⟨o1,o2⟩).mono ?_;exact z9
 ·skip
  obtain⟨o,he⟩:=o;subst o;go_wp2_with (refine wpList_load_row rfl _ _ rfl xb rfl 180 _ (0,0) _ A1.out.box underlying180 rfl zaF ?_)
  clear hi hj;refine (ZaQ H1.out (SM1.out.mono zaJ) ⟨15,dst,tw,args,av,imm⟩ A1.out.args HG.out he rfl).mono ?_;exact z9
 ·skip
  obtain⟨o,he⟩:=o;subst o;go_wp2_with (refine wpList_load_row rfl _ _ rfl xb rfl 180 _ (0,0) _ A1.out.box underlying180 rfl zaF ?_)
  clear hi hj;refine (ZaP H1.out (SM1.out.mono zaJ) ⟨16,dst,tw,args,av,imm⟩ A1.out.args HG.out he rfl).mono ?_;exact z9
 ·skip
  obtain⟨o,he⟩:=o;subst o;have HL:=hid he;go_upto_region 9 with fail
  clear hi hj;refine Zh 10 rfl zaC zaC zaC zaJ
   [Is (.pointer (some ⟨kb,0,none⟩)),Is (.pointer (some ⟨xb,1,none⟩)),Is (.int .i64 dst),Is (.pointer (some ⟨xb,4,none⟩)),Is (.int .i32 imm),IsNilOf 3 w1,Is (.pointer (some ⟨xb,3,none⟩)),Is av,Yx 3 w1 args,VL w1 dst imm args]
   (by repeat (first | exact trivial | refine⟨Is.stable _,?_⟩ | refine⟨IsNilOf.stable _ _,?_⟩ | refine⟨Yx.stable _ _ _,?_⟩ | refine⟨VL.stable _ _ _ _,?_⟩)) ⟨?_,?_,?_,?_,?_,?_,?_,?_,?_,?_,trivial⟩ ?_
  rotate_right
  ·intro vs w2 hs hk;revert hk;refine zs0 ?_;intro hk
   obtain⟨v8,h9,hh⟩:VL w1 dst imm args (vs 9) w2:=by exact hk.2.2.2.2.2.2.2.2.2.1
   simp only[h9];obtain⟨m2,hf⟩:∃ x,x=m0:=⟨_,rfl⟩
   have H2:=hid (H1.out.keep hs);have MV2:=hid (MV1.out.keep hs);have SM2:=SM1;have A2:=hid (A1.out.keep hs);have MV2:=Jk hf MV2;rw[←hf]at H2 SM2 A2;clear hs hk;have hE:Stays (ZT C kb m2) w2 v8:=fun q hq=>⟨fun h1=>by have h3:=H1.out.ltOwnC (by rwa [hf]at h1);have:=(World.ownsRow.lt hh q hq).1;omega,(World.ownsRow.lt hh q hq).2⟩
   go_wp2_with fail
   refine (Yu H2.out (SM2.out.mono zaJ) ⟨⟨28,dst,0,0,0,0,imm,args⟩,v8⟩ ⟨ZB hh,hE⟩ (fun q hq=>Nat.le_trans (by rw[hf];exact H1.out.low) (World.ownsRow.lt hh q hq).1) (Zb1 hA ho HL.out fun a ha=>(by have:=hm a ha;omega))).mono ?_
   exact zV
  all_goals
   intro vs w2 hs hk _;revert hk;refine zs1 ?_;intro hk
  iterate 2
   ·exact kH
  ·exact qI
  ·exact kH
  ·have hd:HeapIs w2 xb #[_,_,_,_,_] 180:=(A1.out.keep hs).box;exact js
  ·exact jz
  ·exact kH
  ·exact qJ
  ·have hz:=hs.size;have hD:IsNilOf 3 w1 (vs 5) w2:=hk.1;have hr:vs 7=av:=hk.2.1;have hB:=VD (A1.out.keep hs).args.1;have hQ:=HL.out;generalize vs 5=v5 at *;generalize vs 7=v7 at *;subst hr;clear hk;refine Z7 (w0:=w1) rfl _ _ 22 rfl 3 (.int .i64 0) 1 8 underlying22 Tryz.info3 rfl zaJ zaJ v5 v7 args.length (args.map (Value.int .i64)) rfl rfl hD hB zaL zaK (fun u hu=>by obtain⟨z,_,rfl⟩:=List.mem_map.1 hu;rfl) hz ?_;intro v' w3 hC hF;go_wp2
   exact⟨_,rfl,hC,hF⟩
  ·have h8:Yx 3 w1 args (vs 8) w2:=by exact hk.2.2.1
   have h2:vs 2=.int .i64 dst:=by exact hk.1
   have h4:vs 4=.int .i32 imm:=by exact hk.2.1
   generalize vs 8=v8 at *;obtain⟨na,nc,hh⟩:=Ze (show w2.ownsRow _ _ _ _ _ _ from h8);subst hh;clear hk;go_wp2
   exact⟨_,rfl,⟨_,rfl,h8⟩,.refl _⟩
 ·skip
  obtain⟨o,he,_⟩:=o;subst o;obtain⟨a,b,hJ⟩:∃ a b,args=[a,b]:=by
   match args,he with
   | [a,b],_=>exact⟨a,b,rfl⟩
  subst hJ;have ha:=hm a zaL;have hb:=hm b zaL;obtain⟨B,off,ac,hr⟩:=Wl A1.out.args.1 (Nat.succ_pos _);dsimp only[List.length_cons,List.length_nil,Nat.reduceAdd]at hr;subst hr;go_upto_region 11 with fail
  clear hi hj;refine Zh 14 rfl zaC zaC zaC zaJ
   [Is (.pointer (some ⟨kb,0,none⟩)),Is (.pointer (some ⟨xb,1,none⟩)),Is (.int .i64 dst),Is (.pointer (some ⟨xb,2,none⟩)),Is (.int .i64 tw),Is (.pointer (some ⟨xb,3,none⟩)),Is (.slice (some ⟨B,off,none⟩) 2 ac),Is (.pointer (some ⟨B,off,none⟩)),Is (.int .i64 a),Is (.pointer (some ⟨xb,3,none⟩)),Is (.slice (some ⟨B,off,none⟩) 2 ac),Is (.pointer (some ⟨B,off+1,none⟩)),Is (.int .i64 b),Is (.agg #[.int .i64 29,.int .i64 dst,.int .i64 tw,.int .i64 a,.int .i64 b,.int .i64 0,.int .i32 0,.slice none 0 0])]
   kP ⟨?_,?_,?_,?_,?_,?_,?_,?_,?_,?_,?_,?_,?_,?_,trivial⟩ ?_
  rotate_right
  ·intro vs w2 hs hk;revert hk;refine zs0 ?_;intro hk
   obtain⟨m2,hf⟩:∃ x,x=m0:=⟨_,rfl⟩
   have H2:=hid (H1.out.keep hs);have MV2:=hid (MV1.out.keep hs);have SM2:=SM1;have A2:=hid (A1.out.keep hs);have MV2:=Jk hf MV2;rw[←hf]at H2 SM2 A2;clear hs hk hf;go_wp2_with fail
   refine (Yu H2.out (SM2.out.mono zaJ) ⟨⟨29,dst,tw,a,b,0,0,[]⟩,.slice none 0 0⟩ ⟨.nil _ _,Stays.nil _ _⟩ (fun q hq=>by cases hq) (YN zas ho zaK zaK zaK zaK zaK)).mono ?_;exact zV
  all_goals
   intro vs w2 hs hk _;revert hk;refine zs1 ?_;intro hk
  iterate 2
   ·exact kH
  ·exact qI
  ·exact kH
  ·have hd:HeapIs w2 xb #[_,_,_,_,_] 180:=(A1.out.keep hs).box;dsimp only at hd;have hc:=hd.cell 2;have hl:=hd.lt;clear hd;exact kH
  ·exact kH
  ·exact qJ
  ·exact kH
  ·obtain⟨hc,hl⟩:=(A1.out.keep hs).at (j:=0) rfl (show _=some a from rfl);rw[Nat.add_zero]at hc;exact kH
  ·exact kH
  ·exact qJ
  ·exact kH
  ·obtain⟨hc,hl⟩:=(A1.out.keep hs).at (j:=1) rfl (show _=some b from rfl);exact kH
  ·exact kH
end
end Go.Proofs.YtimpddecdodddaaGreat
