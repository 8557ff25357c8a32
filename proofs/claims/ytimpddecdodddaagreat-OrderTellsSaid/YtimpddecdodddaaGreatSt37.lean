import Derived.Test.YtimpddecdodddaaGreatSt26
import Derived.Test.YtimpddecdodddaaGreatSt36
namespace Go.Proofs.YtimpddecdodddaaGreat
open Go.Proofs.Tryz Go.RowKit Go.Lib
set_option linter.unusedVariables false
set_option maxHeartbeats 16000000
set_option maxRecDepth 1000000
theorem jf {P:Prop} (h:P:=by
 have hh:=(hf.out.p.keep hs);have hc:=hh.cell 3;have hl:=hh.lt;clear hh;go_wp2
 exact⟨_,rfl,rfl,.refl _⟩):P:=h
theorem ju {P:Prop} (h:P:=by
 have hl:PB<w5.heap.size:=Nat.lt_of_lt_of_le hj.out hs.size;go_wp2
 exact⟨_,rfl,rfl,.refl _⟩):P:=h
theorem jI {P:Prop} (h:P:=by
 conv=>rhs;rw[←List.take_append_drop j l,List.map_append,List.sum_append]
 omega):P:=h
structure MBlkV where
 phis:List YW
 phv:Value
 ins:List MaV
 insv:Value
 fin:ZY
structure Vg where
 params:Int
 blocks:List MBlkV
 bv:Value
def mbcells (b:MBlkV):List Value:=[b.phv,b.insv,.int .i64 b.fin.op,.int .i64 b.fin.a,.int .i64 b.fin.b,b.fin.tov,.int .i32 b.fin.imm]
theorem J2 (b:MBlkV):(mbcells b).length=7:=rfl
def mfv (f:Vg):Value:=.agg #[.int .i64 f.params,f.bv]
def WN (w:World) (x:MaV):Prop:=Zd w x.av x.m.args
theorem WN.keep (w w':World) (x:MaV) (h:WN w x) (s:Since w w'):WN w' x:=Zy.keep h s
def MBlkIn (w:World) (b:MBlkV):Prop:=RowIn fpcells 2 YJ w b.phv b.phis∧RowIn Yd 8 WN w b.insv b.ins∧Zd w b.fin.tov b.fin.to
theorem MBlkIn.keep (w w':World) (b:MBlkV) (h:MBlkIn w b) (s:Since w w'):MBlkIn w' b:=⟨RowIn.keep YJ.keep h.1 s,RowIn.keep WN.keep h.2.1 s,h.2.2.keep s⟩
def Vw (w:World) (f:Vg):Prop:=RowIn mbcells 7 MBlkIn w f.bv f.blocks
theorem Vw.keep {w w':World} {f : Vg} (h:Vw w f) (s:Since w w'):Vw w' f:=RowIn.keep MBlkIn.keep h s
structure JS (S:Nat→Prop) (w:World) (b:MBlkV):Prop where
 phv:Stays S w b.phv
 phs:∀ p∈b.phis,Stays S w p.inv
 insv:Stays S w b.insv
 args:∀ x∈b.ins,Stays S w x.av
 tov:Stays S w b.fin.tov
section
variable {S S' T:Nat→Prop} {w w':World} {b : MBlkV}
theorem JS.mono (h:JS S w b) (hS:∀ q,S' q→S q∨w.heap.size≤q) (hz:w.heap.size≤w'.heap.size):JS S' w' b:=
 ⟨h.phv.mono hS hz,fun p hp=>(h.phs p hp).mono hS hz,h.insv.mono hS hz,fun x hx=>(h.args x hx).mono hS hz,h.tov.mono hS hz⟩
theorem Stays.turns {v : Value} (h:Stays S w v) (hT:∀ q,q<w.heap.size→T q→S q):∀ q,v.ownBlock=some q→¬ T q:=fun q hq e=>(h q hq).1 (hT q (h q hq).2 e)
theorem MBlkIn.turn (h:MBlkIn w b) (st:JS S w b) (t:Zb T w w') (hT:∀ q,q<w.heap.size→T q→S q):MBlkIn w' b:=
 ⟨RowIn.turn h.1 t (st.phv.turns hT) fun p hp hi=>RowIn.turn (show RowIn prcells 2 (fun _ _=>True) w p.inv p.ins from hi) t ((st.phs p hp).turns hT) (fun _ _ h=>h),RowIn.turn h.2.1 t (st.insv.turns hT) fun x hx hi=>Zy.turn hi t ((st.args x hx).turns hT),h.2.2.turn t (st.tov.turns hT)⟩
theorem MBlkIn.grow (h:MBlkIn w b) (s:Since w w'):MBlkIn w' b:=MBlkIn.keep w w' b h s
end
theorem QN {w : World} {b1 b2 s1 s2 n1 n2:Nat} {e1 e2:TypeId} {v1 v2:Value} {x1 x2:List Value} (h1:w.ownsRow b1 e1 s1 v1 n1 x1) (h2:w.ownsRow b2 e2 s2 v2 n2 x2) (hb:e1≠e2):∀ q,v1.ownBlock=some q→¬ v2.ownBlock=some q:=by
 intro q hq ha;obtain⟨_,⟨rfl,_⟩|⟨g1,c1,u1,rfl,_,k1,_⟩⟩:=h1
 ·cases hq
 ·obtain⟨_,⟨rfl,_⟩|⟨g2,c2,u2,rfl,_,k2,_⟩⟩:=h2
  ·cases ha
  ·have e:g1=q:=Option.some.inj hq;have e2:g2=q:=Option.some.inj ha;subst e;subst e2;rw[k1]at k2;simp only[Option.some.injEq,Obj.cells.injEq]at k2;exact hb k2.2.1
structure Qf (n:Nat) (b:MBlkV):Prop where
 few:b.phis.length≤3
 phis:∀ p∈b.phis,(0≤p.dst∧p.dst<700)∧p.ins.length≤9∧∀ y∈p.ins,(0≤y.1∧y.1<(n:Int))∧0≤y.2∧y.2<700
 ins:∀ x∈b.ins,MGood x.m
 fin:Vh n b.fin
def Xs (l:List MBlkV):Nat:=(l.map fun b=>b.ins.length).sum
def YY (l:List Zt):Nat:=(l.map fun b=>b.ins.length).sum
theorem Jv {l : List Zt} {j : Nat} {b : Zt} (h:l[j]? = some b):YY (l.take (j+1))=YY (l.take j)+b.ins.length:=by
 unfold YY;exact kJ
theorem Ju (l:List Zt) (j:Nat):YY (l.take j)≤YY l:=by
 unfold YY
 exact jI
structure Zai (f:Vg):Prop where
 params:0≤f.params∧f.params≤4
 blocks:1≤f.blocks.length∧f.blocks.length≤9
 each:∀ b∈f.blocks,Qf f.blocks.length b
 total:Xs f.blocks≤3600
structure FAt (xb FB foff n fbc b:Nat) (params:Int) (k:Zt) (w:World):Prop where
 box:HeapIs w xb #[.int .i64 params,.slice (some ⟨FB,foff,none⟩) n fbc] 109
 cell:∀ t,t<6→w.cell? ⟨FB,foff+b*6+t,none⟩=(fbcells k)[t]?
 lt:FB<w.heap.size
 blk:FBlkIn w k
theorem FAt.of {xb FB foff n fbc b:Nat} {params:Int} {fb:List Zt} {k : Zt} {w0 w:World} (hf:FnIn w0 ⟨params,fb,.slice (some ⟨FB,foff,none⟩) n fbc⟩) (hk:fb[b]? = some k) (s:Since w0 w) (hb:HeapIs w xb #[.int .i64 params,.slice (some ⟨FB,foff,none⟩) n fbc] 109):FAt xb FB foff n fbc b params k w:=by
 have h:=FnIn.keep hf s;rcases (show RowIn fbcells 6 FBlkIn w (.slice (some ⟨FB,foff,none⟩) n fbc) fb from h) with ⟨a,_,h2⟩|⟨B,off,cap,h1,_,_,h4,h5⟩
 ·rw[h2]at hk;cases hk
 ·cases h1
  exact⟨hb,fun t ht=>(h5 b k hk).1 t ht,h4,(h5 b k hk).2⟩
theorem FAt.keep {xb FB foff n fbc b:Nat} {params:Int} {k : Zt} {w w':World} (h:FAt xb FB foff n fbc b params k w) (s:Since w w'):FAt xb FB foff n fbc b params k w':=
 ⟨h.box.keep s,fun t ht=>by rw[s.cell (p:=⟨FB,foff+b*6+t,none⟩) h.lt];exact h.cell t ht,Nat.lt_of_lt_of_le h.lt s.size,FBlkIn.keep _ _ k h.blk s⟩
def OfT (B kb ob rb:Nat) (bkv:Value) (q:Nat):Prop:=q<B∨q=kb∨q=ob∨q=rb∨bkv.ownBlock=some q
structure OfS (w0:World) (xb ob rb kb n:Nat) (params:Int) (fbv sv:Value) (fb:List Zt) (b:Nat) (bks:List MBlkV) (bkv:Value) (w:World):Prop where
 box:HeapIs w xb #[.int .i64 params,fbv] 109
 out:HeapIs w ob #[.int .i64 params,bkv] 101
 res:HeapIs w rb #[.int .i64 0,.slice none 0 0] 101
 mkr:∃ (at_:Nat) (next:Int) (lvx:Value),HeapIs w kb #[sv,.int .i64 at_,.int .i64 next,lvx] 172∧at_≤4*YY (fb.take b)+2*b∧0≤next∧next≤700+4*YY (fb.take b)+b
 old:Since w0 w
 low:w0.heap.size≤kb∧w0.heap.size≤ob∧w0.heap.size≤rb∧w0.heap.size≤xb
 ne:ob≠rb
 row:OwnRow mbcells 7 135 w0.heap.size w bkv bks
 each:∀ x∈bks,MBlkIn w x∧JS (OfT w0.heap.size kb ob rb bkv) w x∧Qf n x
 len:bks.length=b
 total:Xs bks≤5*YY (fb.take b)+2*b
theorem OfS.keep {w0 w w':World} {xb ob rb kb n b:Nat} {params:Int} {fbv sv bkv:Value} {fb:List Zt} {bks:List MBlkV} (h:OfS w0 xb ob rb kb n params fbv sv fb b bks bkv w) (s:Since w w'):OfS w0 xb ob rb kb n params fbv sv fb b bks bkv w':=by
 refine⟨h.box.keep s,h.out.keep s,h.res.keep s,?_,h.old.trans s,h.low,h.ne,h.row.keep s,fun x hx=>⟨(h.each x hx).1.grow s,(h.each x hx).2.1.mono (fun _ hq=>.inl hq) s.size,(h.each x hx).2.2⟩,h.len,h.total⟩
 obtain⟨a,nx,lv,h1,h2⟩:=h.mkr;exact⟨a,nx,lv,h1.keep s,h2⟩
structure PlNew (B:Nat) (S:Int) (w:World) (y:PlV):Prop where
 args:w.ownsRow B 3 1 y.av y.m.args.length (y.m.args.map (Value.int .i64))
 good:PGood S y.m
 src : -1≤y.src∧y.src≤5000
theorem PlNew.keep {B : Nat} {S : Int} {w w':World} {y : PlV} (h:PlNew B S w y) (s:Since w w'):PlNew B S w' y:=⟨Zv h.args s,h.good,h.src⟩
theorem PlNew.base {B B':Nat} {S : Int} {w : World} {y : PlV} (h:PlNew B S w y) (hb:B'≤B):PlNew B' S w y:=by
 refine⟨?_,h.good,h.src⟩;obtain⟨h0,h1|⟨g,c,u,h1,h2,h3⟩⟩:=h.args
 ·exact⟨h0,.inl h1⟩
 ·exact⟨h0,.inr ⟨g,c,u,h1,Nat.le_trans hb h2,h3⟩⟩
theorem PlNew.one {B : Nat} {S : Int} {w : World} {y : PlV} (h:PlNew B S w y):y.av.oneCell'=true:=by
 obtain⟨a,c,e⟩:=Ze h.args;rw[e];rfl
theorem PlNew.laid {B : Nat} {S op reg n:Int} {w : World} (ho:op=30∨op=31) (hr:0≤reg∧reg<4) (hn:0≤n∧n<S) (hS:S≤16384):PlNew B S w (YA op reg n):=by
 have ha:(Vq op reg n).args=[]:=by unfold Vq;split<;>rfl
 refine⟨?_,Zc5 ho hr hn hS,by show (-1:Int)≤-1∧(-1:Int)≤5000;decide⟩;show w.ownsRow B 3 1 (.slice none 0 0) (Vq op reg n).args.length ((Vq op reg n).args.map (Value.int .i64))
 rw[ha];exact⟨rfl,.inl ⟨rfl,rfl⟩⟩
def GoodRow (B:Nat) (S:Int) (k:Nat) (v:Value) (w:World):Prop:=∃ xs:List PlV,xs.length≤k∧RowIn plcells 9 (fun _ _=>True) w v xs∧∀ y∈xs,PlNew B S w y
theorem GoodRow.stable (B:Nat) (S:Int) (k:Nat):ZH (GoodRow B S k):=fun v w w' ⟨xs,h1,h2,h3⟩ s=>⟨xs,h1,RowIn.keep (fun _ _ _ _ _=>trivial) h2 s,fun y hy=>(h3 y hy).keep s⟩
theorem X7 {w : World} {q : Nat} {T : TypeId} (xs:List PlV) (cs:Array Value) (hc:cs=(xs.flatMap plcells).toArray) (h:HeapIs w q cs T) (k:Nat) (hk:k=xs.length) (hm:xs.length≤1000):RowIn plcells 9 (fun _ _=>True) w (.slice (some ⟨q,0,none⟩) k k) xs:=by
 subst hk;subst hc;refine .inr ⟨q,0,xs.length,rfl,Nat.le_refl _,by unfold maxLen;omega,h.lt,fun j x hj=>⟨fun t ht=>?_,trivial⟩⟩
 have h1:=h.cell (j*9+t);rw[List.getElem?_toArray,Wk plcells 9 Zq xs j t x hj ht]at h1;rw[show 0+j*9+t=j*9+t from by omega];exact h1
theorem Vc (reg n:Int):plcells (YA 30 reg n)=[.int .i64 30,.int .i64 reg,.int .i64 0,.int .i64 0,.int .i64 0,.int .i64 0,.int .i32 n,.slice none 0 0,.int .i64 (-1)]:=by
 have h:Vq 30 reg n={ op:=30,d:=reg,e:=0,a:=0,b:=0,c:=0,imm:=n,args:=[] }:=if_neg zaJ;unfold YA plcells;dsimp only;rw[h]
theorem Vb (reg n:Int):plcells (YA 31 reg n)=[.int .i64 31,.int .i64 0,.int .i64 0,.int .i64 reg,.int .i64 0,.int .i64 0,.int .i32 n,.slice none 0 0,.int .i64 (-1)]:=by
 have h:Vq 31 reg n={ op:=31,d:=0,e:=0,a:=reg,b:=0,c:=0,imm:=n,args:=[] }:=if_pos rfl;unfold YA plcells;dsimp only;rw[h]
theorem QL (x:PlV):plw x=.agg (plcells x).toArray:=rfl
theorem WS (reg n:Int) (w:World) (hr:0≤reg∧reg<4) (hn:0≤n∧n<100000) :
  Calls prog 10 #[.int .i64 30,.int .i64 reg,.int .i64 n] w (fun e w'=>e=.returned (.agg #[.int .i64 30,.int .i64 reg,.int .i64 0,.int .i64 0,.int .i64 0,.int .i64 0,.int .i32 n,.slice none 0 0,.int .i64 (-1)])∧Since w w'):=
 (ZaO 30 reg n w (.inl rfl) hr hn).mono fun e w' h=>⟨h.1.trans (by rw[QL,Vc]),h.2⟩
theorem WR (reg n:Int) (w:World) (hr:0≤reg∧reg<4) (hn:0≤n∧n<100000) :
  Calls prog 10 #[.int .i64 31,.int .i64 reg,.int .i64 n] w (fun e w'=>e=.returned (.agg #[.int .i64 31,.int .i64 0,.int .i64 0,.int .i64 reg,.int .i64 0,.int .i64 0,.int .i32 n,.slice none 0 0,.int .i64 (-1)])∧Since w w'):=
 (ZaO 31 reg n w (.inr rfl) hr hn).mono fun e w' h=>⟨h.1.trans (by rw[QL,Vb]),h.2⟩
theorem Zea {w : World} {q : Nat} {T : TypeId} {reg n:Int} (h:HeapIs w q #[.int .i64 30,.int .i64 reg,.int .i64 0,.int .i64 0,.int .i64 0,.int .i64 0,.int .i32 n,.slice none 0 0,.int .i64 (-1)] T):RowIn plcells 9 (fun _ _=>True) w (.slice (some ⟨q,0,none⟩) 1 1) [YA 30 reg n]:=
 X7 [YA 30 reg n] _ (by rw[List.flatMap_cons,List.flatMap_nil,List.append_nil,Vc]) h 1 rfl (by show 1≤1000;omega)
theorem Zd9 {w : World} {q : Nat} {T : TypeId} {reg n:Int} (h:HeapIs w q #[.int .i64 31,.int .i64 0,.int .i64 0,.int .i64 reg,.int .i64 0,.int .i64 0,.int .i32 n,.slice none 0 0,.int .i64 (-1)] T):RowIn plcells 9 (fun _ _=>True) w (.slice (some ⟨q,0,none⟩) 1 1) [YA 31 reg n]:=
 X7 [YA 31 reg n] _ (by rw[List.flatMap_cons,List.flatMap_nil,List.append_nil,Vb]) h 1 rfl (by show 1≤1000;omega)
theorem Zbo {w : World} {q : Nat} {T : TypeId} {reg n reg2 n2:Int} (h:HeapIs w q #[.int .i64 30,.int .i64 reg,.int .i64 0,.int .i64 0,.int .i64 0,.int .i64 0,.int .i32 n,.slice none 0 0,.int .i64 (-1),.int .i64 31,.int .i64 0,.int .i64 0,.int .i64 reg2,.int .i64 0,.int .i64 0,.int .i32 n2,.slice none 0 0,.int .i64 (-1)] T):RowIn plcells 9 (fun _ _=>True) w (.slice (some ⟨q,0,none⟩) 2 2) [YA 30 reg n,YA 31 reg2 n2]:=
 X7 [YA 30 reg n,YA 31 reg2 n2] _ (by rw[List.flatMap_cons,List.flatMap_cons,List.flatMap_nil,List.append_nil,Vc,Vb];rfl) h 2 rfl (by show 2≤1000;omega)
theorem Z3 {α:Type} {P : Program} {base:Nat} {w : World} {ops:Array Oper} {rest:List Oper} {o : Oper} {a : Act} {Q : Exit→Act→World→Prop} (f:α→List Value) (sz:Nat) (hf:∀ x,(f x).length=sz) (hr:0<sz) (hg:o.guard=none) (s x:Operand) (t:TypeId)
  (ho:o.op=.call { callee:=.builtin .append,args:=#[s,x],argTypes:=#[t,t] })
  (e:TypeId) (z:Value) (bytes:Nat) (ht:P.underlying t=some (.slice e)) (hh:(P.info? e).map (fun i=>(i.zero,i.size,i.bytes))=some (some z,sz,bytes)) (hz:z.cells.size=sz) (hA:bytes≤1000)
  (v xv:Value) (l ys:List α) (hs:a.eval s=v) (hx:a.eval x=xv) (hb:OwnRow f sz e base w v l) (hy:Vu w xv ys.length (ys.flatMap f)) (h1:∀ u∈ys.flatMap f,u.oneCell'=true)
  (he:l.length+ys.length≤1000000) (hd:base≤w.heap.size)
  (h:∀ v' w',OwnRow f sz e base w' v' (l++ys)→Zb (fun k=>v.ownBlock=some k) w w'→Yb w v v'→wpList P ops Q rest (a.put o.dst v') w'):wpList P ops Q (o::rest) a w:=by
 obtain⟨i,hi,hp,hl,hk⟩:=info_parts hh;have hw:(l.length+ys.length)*bytes≤140737488355328:=by
  have:=Nat.mul_le_mul he hA;omega
 have hc:∀ {n : Nat} {v':Value} {w':World},n=l.length+ys.length→w'.ownsRow base e sz v' n (l.flatMap f++ys.flatMap f)→OwnRow f sz e base w' v' (l++ys):=fun {n v' w'} hn h2=>by
  unfold OwnRow;rw[List.length_append,List.flatMap_append,←hn];exact h2
 rcases hy with ⟨ad,hv,hm,hB⟩|⟨ad,c,hv,hj⟩
 ·obtain rfl:ys=[]:=List.length_eq_zero_iff.1 hm
  cases ad with
  | none=>exact wpList_append_own_none hg s x t ho base e i sz ht hi v _ _ hs hb (hx.trans hv) (h v w (by rw[List.append_nil];exact hb) (Zb.refl _ _) fun q hq=>.inl hq)
  | some ad =>
   refine YG hg s x t ho base e i z sz bytes ht hi hp hl hk hz hr v _ _ hs hb ad 0 0 [] (hx.trans hv) zaL (fun j u hu=>by cases hu) (fun u hu=>by cases hu) (by unfold maxLen;simp at he;omega) (by simpa using hw) hd ?_;intro v' w' ha t h4;exact h v' w' (hc rfl zaA) t h4
 ·refine YG hg s x t ho base e i z sz bytes ht hi hp hl hk hz hr v _ _ hs hb ad ys.length c (ys.flatMap f) (hx.trans hv) (VG f sz hf ys) hj h1 zaq hw hd ?_;intro v' w' ha t h4;exact h v' w' (hc rfl ha) t h4
theorem WA {B : Nat} {S : Int} {w : World} {xs:List PlV} (h:∀ y∈xs,PlNew B S w y):∀ u∈xs.flatMap plcells,u.oneCell'=true:=by
 intro u hu;obtain⟨y,hy,ha⟩:=List.mem_flatMap.1 hu;have:=(h y hy).one;simp only[plcells,List.mem_cons,List.not_mem_nil,or_false]at ha;rcases ha with rfl|rfl|rfl|rfl|rfl|rfl|rfl|rfl|rfl<;>first|rfl|exact this
theorem PlNew.turn {B B2:Nat} {S : Int} {w w':World} {y : PlV} {v : Value} {n : Nat} {xs:List Value} (h:PlNew B S w y) (ha:w.ownsRow B2 38 9 v n xs) (t:Zb (fun q=>v.ownBlock=some q) w w'):PlNew B S w' y:=
 ⟨Zg h.args t fun q hq e=>QN h.args ha zaJ q hq e,h.good,h.src⟩
open Go.RowKit Go.ChangeShapes Go.WideShapes
def Za1 (l:List PlV) (B:Nat) (v:Value) (w:World):Prop:=∃ m,OwnRow plcells 9 38 B w v m∧TE Y5 (l.map key) (m.map key)∧∀ x∈m,x∈l
theorem Za1.stable (l:List PlV) (B:Nat):ZH (Za1 l B):=fun v w w' ⟨m,h1,h2⟩ s=>⟨m,h1.keep s,h2⟩
def Qk (l:List PlV) (e:ZY) (B:Nat) (v:Value) (w:World):Prop:=∃ iv m,v=.agg #[iv,.int .i64 e.op,.int .i64 e.a,.int .i64 e.b,e.tov,.int .i32 e.imm]∧OwnRow plcells 9 38 B w iv m∧TE Y5 (l.map key) (m.map key)∧∀ x∈m,x∈l
theorem Qk.stable (l:List PlV) (e:ZY) (B:Nat):ZH (Qk l e B):=fun v w w' ⟨iv,m,h0,h1,h2⟩ s=>⟨iv,m,h0,h1.keep s,h2⟩
def Za6 (l:List PlV) (e:ZY) (B:Nat) (v:Value) (w:World):Prop:=∃ iv m,OwnRow blcells 6 34 B w v [⟨m,iv,e⟩]∧OwnRow plcells 9 38 B w iv m∧TE Y5 (l.map key) (m.map key)∧∀ x∈m,x∈l
theorem Za6.stable (l:List PlV) (e:ZY) (B:Nat):ZH (Za6 l e B):=fun v w w' ⟨iv,m,h0,h1,h2⟩ s=>⟨iv,m,h0.keep s,h1.keep s,h2⟩
theorem ZeE {B : Nat} {w : World} {ta:Option Addr} {tl tc:Nat} {y : Zx} (h:OwnRow plcells 9 38 B w y.insv y.ins):y.fin.tov=.slice ta tl tc→∀ u∈[y].flatMap blcells,u.oneCell'=true:=by
 intro ht u hu;obtain⟨a1,c1,e1⟩:=OwnRow.shape h;simp only[List.flatMap_cons,List.flatMap_nil,List.append_nil,blcells,List.mem_cons,List.not_mem_nil,or_false]at hu;rcases hu with rfl|rfl|rfl|rfl|rfl|rfl<;>first|rfl|(rw[e1];rfl)|(rw[ht];rfl)
structure JI (w0:World) (pb rb ob:Nat) (P:Array Value) (pp pk ps:Int) (pbl:List Zx) (ov:Value) (out:List Zx) (w:World):Prop where
 p:HeapIs w pb P 27
 r:HeapIs w rb #[.int .i64 0,.int .i64 0,.int .i64 0,.slice none 0 0] 27
 o:HeapIs w ob #[.int .i64 pp,.int .i64 pk,.int .i64 ps,ov] 27
 row:OwnRow blcells 6 34 w0.heap.size w ov out
 each:∀ (t:Nat) (x:Zx),out[t]? = some x→∃ a,pbl[t]? = some a∧x.fin=a.fin∧OwnRow plcells 9 38 w0.heap.size w x.insv x.ins∧TE Y5 (a.ins.map key) (x.ins.map key)∧∀ z∈x.ins,z∈a.ins
 low:w0.heap.size≤rb∧w0.heap.size≤ob∧rb≠ob∧pb≠ob∧pb≠rb
 old:Since w0 w
theorem JI.keep {w0 w w':World} {pb rb ob:Nat} {P : Array Value} {pp pk ps:Int} {pbl out:List Zx} {ov:Value} (h:JI w0 pb rb ob P pp pk ps pbl ov out w) (s:Since w w'):JI w0 pb rb ob P pp pk ps pbl ov out w':=
 ⟨h.p.keep s,h.r.keep s,h.o.keep s,h.row.keep s,fun t x hx=>by obtain⟨a,h1,h2,h3,h4⟩:=h.each t x hx;exact⟨a,h1,h2,h3.keep s,h4⟩,h.low,h.old.trans s⟩
theorem JI.put {w0 w w6:World} {pb rb ob:Nat} {P : Array Value} {pp pk ps:Int} {pbl out:List Zx} {ov v':Value} {a y:Zx} (h:JI w0 pb rb ob P pp pk ps pbl ov out w) (hc:OwnRow blcells 6 34 w0.heap.size w6 v' (out++[y])) (t:Zb (fun q=>ov.ownBlock=some q) w w6) (ha:pbl[out.length]? = some a)
  (hf:y.fin=a.fin) (hr:OwnRow plcells 9 38 w0.heap.size w y.insv y.ins) (hd:TE Y5 (a.ins.map key) (y.ins.map key)∧∀ z∈y.ins,z∈a.ins):JI w0 pb rb ob P pp pk ps pbl v' (out++[y]) (w6.setCell ⟨ob,3,none⟩ v'):=by
 have k:=Kin.row (show w.ownsRow _ _ _ _ _ _ from h.row);have hg:∀ q,ov.ownBlock=some q→w0.heap.size≤q:=fun q hq=>(World.ownsRow.lt (show w.ownsRow _ _ _ _ _ _ from h.row) q hq).1
 have hb:=h.o.turn t (k.heap h.o zaJ);have t2:Zb (fun q=>q=ob) w6 (w6.setCell ⟨ob,3,none⟩ v'):=(Zb.refl (fun q=>q=ob) w6).setCell (p:=⟨ob,3,none⟩) rfl _;have k2:=Kin.box hb;have hp:∀ x:Zx,OwnRow plcells 9 38 w0.heap.size w x.insv x.ins→OwnRow plcells 9 38 w0.heap.size (w6.setCell ⟨ob,3,none⟩ v') x.insv x.ins:=fun x hx=>by
  have h1:=Zg (show w.ownsRow _ _ _ _ _ _ from hx) t (k.apart (show w.ownsRow _ _ _ _ _ _ from hx) zaJ);exact Zg h1 t2 (k2.apart h1 zaJ)
 refine⟨(h.p.turn t (k.heap h.p zaJ)).turn t2 (fun e=>h.low.2.2.2.1 e),(h.r.turn t (k.heap h.r zaJ)).turn t2 (fun e=>h.low.2.2.1 e),hb.set 3 v',Zg (show w6.ownsRow _ _ _ _ _ _ from hc) t2 (k2.apart (show w6.ownsRow _ _ _ _ _ _ from hc) zaJ),fun s x hx=>?_,h.low,t2.toSince (t.toSince h.old fun q hq e=>by have:=hg q e;omega) fun q hq e=>by have:=h.low.2.1;omega⟩;by_cases hs:s<out.length
 ·rw[List.getElem?_append_left hs]at hx;obtain⟨a,h1,h2,h3,h4⟩:=h.each s x hx;exact⟨a,h1,h2,hp x h3,h4⟩
 ·have he:s=out.length:=by
   have:=(List.getElem?_eq_some_iff.1 hx).1;rw[List.length_append]at this;simp at this;omega
  subst he;rw[List.getElem?_append_right (Nat.le_refl _),Nat.sub_self]at hx
  cases hx
  exact⟨a,ha,hf,hp _ hr,hd⟩
def Zfk (p:Z2) (w:World) (e:Ending) (w':World):Prop:=∃ q:Z2,e=.returned (pv q)∧(Xz w' q∧OwnRow blcells 6 34 w.heap.size w' q.bv q.blocks∧∀ x∈q.blocks,OwnRow plcells 9 38 w.heap.size w' x.insv x.ins)∧VN p q∧Since w w'
theorem ZcZ (p:Z2) (s:List Int) (sv:Value) (w:World) (hp:Xz w p) (hs:Zd w sv s) (hn:p.blocks.length≤1000) (hi:∀ b∈p.blocks,b.ins.length≤50000):Calls prog 23 #[pv p,sv] w (Zfk p w):=by
 obtain⟨pp,pk,ps,pbl,pbv⟩:=p;obtain⟨pa,pc,hM,_⟩:=RowIn.shape hp.1;obtain⟨sa,sc,hV⟩:=Zc hs;obtain⟨n,hQ⟩:∃ z,pbl.length=z:=⟨_,rfl⟩
 obtain⟨sl,hW⟩:∃ z,s.length=z:=⟨_,rfl⟩
 dsimp only at hM hn hi;rw[hQ]at hM hn;rw[hW]at hV;subst hM hV;have HP:=zH (Za5 w (.slice pa n pc) pbl) hp.1;have Hf:=hid hs;have HN:=hid hQ;have HI:=hid hi;clear hp hs hQ hW hi;unfold pv;dsimp only;go_enter func23,ntmps23
 go_upto_region 3 with fail
 obtain⟨wa,hD⟩:∃ z,z=w.alloc (.cells #[.int .i64 pp,.int .i64 pk,.int .i64 ps,.slice pa n pc] 27):=⟨_,rfl⟩
 obtain⟨wb,hC⟩:∃ z,z=wa.alloc (.cells #[.int .i64 0,.int .i64 0,.int .i64 0,.slice none 0 0] 27):=⟨_,rfl⟩
 obtain⟨w1,hG⟩:∃ z,z=wb.alloc (.cells #[.int .i64 pp,.int .i64 pk,.int .i64 ps,.slice none 0 0] 27):=⟨_,rfl⟩
 have za:wa.heap.size=w.heap.size+1:=by rw[hD];simp
 have zb:wb.heap.size=w.heap.size+1+1:=by rw[hC];simp[za]
 have sa':Since w wa:=by rw[hD];exact (Since.refl _).alloc _
 have sb':Since wa wb:=by rw[hC];exact (Since.refl _).alloc _
 have se':Since wb w1:=by rw[hG];exact (Since.refl _).alloc _
 obtain⟨pb,hN⟩:∃ z,z=w.heap.size:=⟨_,rfl⟩
 obtain⟨rb,hL⟩:∃ z,z=w.heap.size+1:=⟨_,rfl⟩
 obtain⟨ob,hP⟩:∃ z,z=w.heap.size+1+1:=⟨_,rfl⟩
 have HB:=hid (show JI w pb rb ob #[.int .i64 pp,.int .i64 pk,.int .i64 ps,.slice pa n pc] pp pk ps pbl (.slice none 0 0) [] w1 from by
  have k1:HeapIs wa pb #[.int .i64 pp,.int .i64 pk,.int .i64 ps,.slice pa n pc] 27:=by rw[hD,hN];exact HeapIs.new _ _ _
  have k2:HeapIs wb rb #[.int .i64 0,.int .i64 0,.int .i64 0,.slice none 0 0] 27:=by rw[hC,hL,←za];exact HeapIs.new _ _ _
  have k3:HeapIs w1 ob #[.int .i64 pp,.int .i64 pk,.int .i64 ps,.slice none 0 0] 27:=by rw[hG,hP,←zb];exact HeapIs.new _ _ _
  exact⟨k1.keep (sb'.trans se'),k2.keep se',k3,OwnRow.nil _ _ _ _ _,fun t x h=>(by cases h),zaK,(sa'.trans sb').trans se'⟩)
 rw[←hD,←hC,←hG,←hP,←hL,←hN];clear hD hC hG hP hL hN za zb sa' sb' se';go_wp2_with fail
 go_loopw [6] (fun iv wr=>∃ (i:Nat) (v:Value) (out:List Zx),iv=.int .i64 i∧i≤n∧out.length=i∧JI w pb rb ob #[.int .i64 pp,.int .i64 pk,.int .i64 ps,.slice pa n pc] pp pk ps pbl v out wr) (fun iv _=>n-(intOf iv).toNat)
 case atStart=>exact⟨0,_,[],rfl,Nat.zero_le _,rfl,HB.out⟩
 case round =>
  clear HB;obtain⟨i,v,out,rfl,hi,hO,hE⟩:=hrel;obtain⟨va,vc,hv⟩:=OwnRow.shape hE.row;rw[hO]at hv;subst hv;have hf:=hid hE;have hz:=hid hO;have Hb:=hE.p.cell 3;have Ha:=hE.p.lt;clear hE hO;by_cases Hc:i<n
  ·obtain⟨PB,poff,y,he,hB,hy,ho,hm⟩:=RowIn.at (RowIn.keep BlkOk.keep HP.out hf.out.old) (show i<pbl.length by rw[HN.out];exact Hc)
   cases he
   obtain⟨il,iv,⟨eop,ea,eb,eto,etov,eimm⟩⟩:=y;obtain⟨ia,ic,hR,_⟩:=RowIn.shape hm.1;obtain⟨ta,tc,hI⟩:=Zc hm.2.1;obtain⟨kl,hZ⟩:∃ z,il.length=z:=⟨_,rfl⟩
   obtain⟨tl,hU⟩:∃ z,eto.length=z:=⟨_,rfl⟩
   dsimp only at hR hI;rw[hZ]at hR;rw[hU]at hI;subst hR hI;have Hl:=zH (wr.cell? ⟨PB,poff+i*6,none⟩=some (.slice ia kl ic)) (ho 0 zaJ);have hj:=hid hB;have Hk:=hid (fun (w5:World) (s5:Since wr w5)=>show w5.cell? ⟨PB,poff+i*6+1,none⟩=some (.int .i64 eop)∧w5.cell? ⟨PB,poff+i*6+2,none⟩=some (.int .i64 ea)∧w5.cell? ⟨PB,poff+i*6+3,none⟩=some (.int .i64 eb)∧w5.cell? ⟨PB,poff+i*6+4,none⟩=some (.slice ta tl tc)∧w5.cell? ⟨PB,poff+i*6+5,none⟩=some (.int .i32 eimm) from
    ⟨(s5.cell (p:=⟨PB,_,none⟩) hj.out).trans (ho 1 zaJ),(s5.cell (p:=⟨PB,_,none⟩) hj.out).trans (ho 2 zaJ),(s5.cell (p:=⟨PB,_,none⟩) hj.out).trans (ho 3 zaJ),(s5.cell (p:=⟨PB,_,none⟩) hj.out).trans (ho 4 zaJ),(s5.cell (p:=⟨PB,_,none⟩) hj.out).trans (ho 5 zaJ)⟩)
   have Hj:=hid hy;have Hm:=hid hm;have h6:=hid (fun (w5:World) (s5:Since wr w5)=>Zem il s (.slice ia kl ic) (.slice sa sl sc) w5 (RowIn.keep XA.keep (show Pls wr (.slice ia kl ic) il from hm.1) s5) (Hf.out.keep (hf.out.old.trans s5)) (by have h9:=HI.out _ (List.mem_of_getElem? hy);exact h9))
   clear hy ho hm hB hZ hU;go_wp2_with fail
   clear Hb Ha;refine Zh 18 rfl zaC zaC zaC zaJ
    [Is (.pointer (some ⟨ob,3,none⟩)),Is (.slice va i vc),Is (.pointer (some ⟨pb,3,none⟩)),Is (.slice (some ⟨PB,poff,none⟩) n pc),Is (.int .i64 i),Is (.pointer (some ⟨PB,poff+i*6,none⟩)),Is (.pointer (some ⟨PB,poff+i*6,none⟩)),Is (.slice ia kl ic),Is (.slice sa sl sc),Za1 il w.heap.size,Is (.pointer (some ⟨pb,3,none⟩)),Is (.slice (some ⟨PB,poff,none⟩) n pc),Is (.int .i64 i),Is (.pointer (some ⟨PB,poff+i*6,none⟩)),Is (.pointer (some ⟨PB,poff+i*6+1,none⟩)),Is (.agg #[.int .i64 eop,.int .i64 ea,.int .i64 eb,.slice ta tl tc,.int .i32 eimm]),Qk il ⟨eop,ea,eb,eto,.slice ta tl tc,eimm⟩ w.heap.size,Za6 il ⟨eop,ea,eb,eto,.slice ta tl tc,eimm⟩ w.heap.size]
    (by repeat (first | exact trivial | refine⟨Is.stable _,?_⟩ | refine⟨Za1.stable _ _,?_⟩ | refine⟨Qk.stable _ _ _,?_⟩ | refine⟨Za6.stable _ _ _,?_⟩)) ⟨?_,?_,?_,?_,?_,?_,?_,?_,?_,?_,?_,?_,?_,?_,?_,?_,?_,?_,trivial⟩ ?_
   rotate_right
   ·intro vs w5 hs hk;revert hk;refine zs5 ?_;intro hk
    obtain⟨iv,m,hY,hd,hg⟩:Za6 il ⟨eop,ea,eb,eto,.slice ta tl tc,eimm⟩ w.heap.size (vs 17) w5:=by exact hk.2.2.2.2.2.2.2.2.2.2.2.2.2.2.2.2.2.1
    generalize vs 17=xv at *;have hw:=hid (hf.out.keep hs);have Hh:=hid hY;have hu:=hid hd;have hr:=hid hg;have Hi:=zH (out.length + [(⟨m,iv,⟨eop,ea,eb,eto,.slice ta tl tc,eimm⟩⟩:Zx)].length≤1000000) (by rw[hz.out];simp;omega);have h8:=hid (ZeE (y:=⟨m,iv,⟨eop,ea,eb,eto,.slice ta tl tc,eimm⟩⟩) hd rfl);clear hk hs hY hd hg;go_wp2_with (refine Z3 (base:=w.heap.size) blcells 6 Z5 zaJ rfl _ _ 25 rfl 34 (.agg #[.slice none 0 0,.int .i64 0,.int .i64 0,.int .i64 0,.slice none 0 0,.int .i32 0]) 80 underlying25 zaF rfl zaJ (.slice va i vc) xv out [⟨m,iv,⟨eop,ea,eb,eto,.slice ta tl tc,eimm⟩⟩] rfl rfl hw.out.row (XD (p:=fun _ _=>True) Z5 zaJ (Z0 (p:=fun _ _=>True) Z5 Hh.out fun _ _=>trivial)) h8.out Hi.out hw.out.old.size ?_;intro v' w6 hF ht h0;obtain⟨va2,vc2,hT⟩:=Ze (show w6.ownsRow _ _ _ _ _ _ from hF);rw[List.length_append,hz.out]at hT;subst hT;have h7:=hid hF;have He:=hid ht;have hH:=hw.out.o.turn ht ((Kin.row (show w5.ownsRow _ _ _ _ _ _ from hw.out.row)).heap hw.out.o zaJ);have Hn:=hH.lt;have Ho:=hH.frozen;have Hp:=hH.cell 3;clear hF ht h0 hH)
    go_roundw
    case rel=>exact⟨i+1,_,_,by go_num,zaK,by rw[List.length_append,hz.out];rfl,hw.out.put (a:=⟨il,.slice ia kl ic,⟨eop,ea,eb,eto,.slice ta tl tc,eimm⟩⟩) (y:=⟨m,iv,⟨eop,ea,eb,eto,.slice ta tl tc,eimm⟩⟩) h7.out He.out (by rw[hz.out];exact Hj.out) rfl hu.out hr.out⟩
    case measure=>simp[intOf];omega
   all_goals
    intro vs w5 hs hk _;revert hk;refine zs5 ?_;intro hk
   ·exact kH
   ·have hh:=(hf.out.o.keep hs);have hc:=hh.cell 3;have hl:=hh.lt;clear hh;exact kH
   ·exact kH
   ·exact jf
   iterate 3
    ·exact kH
   ·have c0:=(hs.cell (p:=⟨PB,poff+i*6,none⟩) hj.out).trans Hl.out;exact ju
   ·exact kH
   ·have HC:=hid (h6.out w5 hs);have HZ:=hid (Nat.le_trans hf.out.old.size hs.size);clear hk hs;go_wp2_with fail
    refine HC.out.mono ?_;rintro e w6 ⟨v,m,rfl,hd,hg,hJ,hX⟩;have hu:=hid (XX (show w6.ownsRow _ _ _ _ _ _ from hd) HZ.out);have hr:=hid (And.intro hg hJ);have Hg:=hid hX;obtain⟨xa,xc,hx⟩:=OwnRow.shape hd;obtain⟨xl,hA⟩:∃ z,m.length=z:=⟨_,rfl⟩
    rw[hA]at hx;subst hx;clear hd hg hJ hX hA;go_wp2
    exact⟨_,rfl,⟨m,hu.out,hr.out⟩,Hg.out⟩
   ·exact kH
   ·exact jf
   iterate 3
    ·exact kH
   ·obtain⟨k1,k2,k3,k4,k5⟩:=Hk.out w5 hs;exact ju
   ·obtain⟨m,hd,hg⟩:Za1 il w.heap.size (vs 9) w5:=by exact hk.1
    obtain⟨xa,xc,hx⟩:=OwnRow.shape hd;obtain⟨xl,hA⟩:∃ z,m.length=z:=⟨_,rfl⟩
    rw[hA]at hx;have hu:=hid hd;have hr:=hid hg;have e15:=hk.2.1;generalize vs 9=v9 at *;generalize vs 15=v15 at *;subst hx e15;clear hk hd hg hA;go_wp2
    exact⟨_,rfl,⟨_,m,rfl,hu.out,hr.out⟩,.refl _⟩
   ·obtain⟨iv,m,e16,hd,hg⟩:Qk il ⟨eop,ea,eb,eto,.slice ta tl tc,eimm⟩ w.heap.size (vs 16) w5:=by exact hk.1
    have HZ:=hid (Nat.le_trans hf.out.old.size hs.size);have hu:=hid hd;have hr:=hid hg;generalize vs 16=v16 at *;subst e16;clear hk hs hd hg;go_wp2
    exact⟨_,rfl,⟨iv,m,⟨rfl,.inr ⟨_,1,_,rfl,HZ.out,HeapIs.new _ _ _,Nat.le_refl 1,by show 1≤maxLen;unfold maxLen;omega,rfl,rfl⟩⟩,hu.out.keep ((Since.refl _).alloc _),hr.out⟩,(Since.refl _).alloc _⟩
  ·obtain rfl:n=i:=zaK
   have hb:=hf.out.o;have k0:=hb.cell 0;have k1:=hb.cell 1;have k2:=hb.cell 2;have k3:=hb.cell 3;have kl:=hb.lt;clear hb;go_wp2_with (refine wpList_store_row rfl 27 _ _ rfl rb #[.int .i64 pp,.int .i64 pk,.int .i64 ps,.slice va n vc] rfl rfl 27 _ hf.out.r zaF rfl zaj ?_)
   try simp only[Exit.inBlock,Exit.then]
   have t4:Zb (fun q=>q=rb) wr (wr.setRow rb #[.int .i64 pp,.int .i64 pk,.int .i64 ps,.slice va n vc]):=ZI (S:=fun q=>q=rb) rfl _;have hK:Since w (wr.setRow rb #[.int .i64 pp,.int .i64 pk,.int .i64 ps,.slice va n vc]):=t4.toSince hf.out.old fun q hq e=>by have:=hf.out.low;omega
   refine bodyPost_ret (results_cell_row rfl _ _ rb 27 #[.int .i64 pp,.int .i64 pk,.int .i64 ps,.slice va n vc] (0,0) _ rfl (ZO hf.out.r _) underlying27 rfl zaF) rfl ?_;have k:=Kin.box hf.out.r;have hd:=Zg (show wr.ownsRow _ _ _ _ _ _ from hf.out.row) t4 (k.apart (show wr.ownsRow _ _ _ _ _ _ from hf.out.row) zaJ);refine⟨⟨pp,pk,ps,out,.slice va n vc⟩,rfl,⟨⟨Z0 Z5 hd fun x hx=>?_,by show out.length≤100000;rw[hz.out];omega⟩,hd,fun x hx=>?_⟩,⟨rfl,rfl,rfl,by show out.length=pbl.length;rw[hz.out,HN.out],fun t a c ha hc=>?_⟩,hK⟩
   ·obtain⟨t,ht⟩:=List.getElem?_of_mem hx;obtain⟨a,h1,h2,h3,h4,h5⟩:=hf.out.each t x ht;have hS:=RowIn.each_of HP.out a (List.mem_of_getElem? h1);refine⟨Z0 Zq (Zg (show wr.ownsRow _ _ _ _ _ _ from h3) t4 (k.apart (show wr.ownsRow _ _ _ _ _ _ from h3) zaJ)) fun y hy=>XA.keep _ _ _ (RowIn.each_of hS.1 y (h5 y hy)) hK,?_,?_⟩
    ·rw[h2];exact hS.2.1.keep hK
    ·rw[Zap h4];exact hS.2.2
   ·obtain⟨t,ht⟩:=List.getElem?_of_mem hx;obtain⟨a,h1,h2,h3,h4,h5⟩:=hf.out.each t x ht;exact Zg (show wr.ownsRow _ _ _ _ _ _ from h3) t4 (k.apart (show wr.ownsRow _ _ _ _ _ _ from h3) zaJ)
   ·obtain⟨a',h1,h2,h3,h4,h5⟩:=hf.out.each t c hc;rw[show pbl[t]? = some a from ha]at h1
    cases h1
    exact⟨h2,h4,h5⟩
noncomputable def OCode (p:List Nat):Code:=V2 p (Tryz.f80.body.getD .skip)
def FrO (l:List (Nat × Value)) (a:Act):Prop:=a.tmps.size=109∧a.defers=[]∧Sl l a
theorem XE {l : List (Nat × Value)} {a : Act} (h1:a.tmps.size=109) (h2:a.defers=[]) (h3:Sl l a):FrO l a:=⟨h1,h2,h3⟩
theorem Zb6 (u:Nat→Value):(u 0::u 1::u 2::u 3::u 4::u 5::u 6::u 7::u 8::u 9::u 10::u 11::u 12::u 13::u 14::u 15::u 16::u 17::u 18::u 19::u 20::u 21::u 22::u 23::u 24::u 25::u 26::u 27::u 28::u 29::u 30::u 31::u 32::u 33::u 34::u 35::u 36::u 37::u 38::u 39::u 40::u 41::u 42::u 43::u 44::u 45::u 46::u 47::u 48::u 49::u 50::u 51::u 52::u 53::u 54::u 55::u 56::u 57::u 58::u 59::u 60::u 61::u 62::u 63::u 64::u 65::u 66::u 67::u 68::u 69::u 70::u 71::u 72::u 73::u 74::u 75::u 76::u 77::u 78::u 79::u 80::u 81::u 82::u 83::u 84::u 85::u 86::u 87::u 88::u 89::u 90::u 91::u 92::u 93::u 94::u 95::u 96::u 97::u 98::u 99::u 100::u 101::u 102::u 103::u 104::u 105::u 106::u 107::u 108::[]:List Value).toArray=((List.range 109).map u).toArray:=by kernel_rfl
theorem Xh {l : List (Nat × Value)} {a : Act} (h:FrO l a):∃ u:Nat→Value,a=⟨(u 0::u 1::u 2::u 3::u 4::u 5::u 6::u 7::u 8::u 9::u 10::u 11::u 12::u 13::u 14::u 15::u 16::u 17::u 18::u 19::u 20::u 21::u 22::u 23::u 24::u 25::u 26::u 27::u 28::u 29::u 30::u 31::u 32::u 33::u 34::u 35::u 36::u 37::u 38::u 39::u 40::u 41::u 42::u 43::u 44::u 45::u 46::u 47::u 48::u 49::u 50::u 51::u 52::u 53::u 54::u 55::u 56::u 57::u 58::u 59::u 60::u 61::u 62::u 63::u 64::u 65::u 66::u 67::u 68::u 69::u 70::u 71::u 72::u 73::u 74::u 75::u 76::u 77::u 78::u 79::u 80::u 81::u 82::u 83::u 84::u 85::u 86::u 87::u 88::u 89::u 90::u 91::u 92::u 93::u 94::u 95::u 96::u 97::u 98::u 99::u 100::u 101::u 102::u 103::u 104::u 105::u 106::u 107::u 108::[]).toArray,[]⟩∧∀ i v,a.tmps[i]? = some v→u i=v:=by
 obtain⟨t,d⟩:=a;obtain⟨h1,h2,_⟩:=h;dsimp only at h1 h2;obtain⟨u,hu⟩:∃ u:Nat→Value,∀ i,u i=t.getD i undef:=⟨fun i=>t.getD i undef,fun _=>rfl⟩
 refine⟨u,?_,fun i v hv=>?_⟩
 ·rw[h2];refine congrArg (fun x=>Act.mk x []) (Eq.trans ?_ (Zb6 u).symm);exact j8
 ·exact jY
end Go.Proofs.YtimpddecdodddaaGreat
