/- OrderTells: rows of its own, and what turns in memory. -/
import Derived.Test.YtimpddecdodddaaGreatStLaw
namespace Go.Proofs.YtimpddecdodddaaGreat
open Go.RowKit Go.ChangeShapes Go.WideShapes
set_option linter.unusedVariables false
theorem wpList_append_src {P : Program} {w : World} {ops:Array Oper} {rest:List Oper} {o : Oper} {a : Act} {Q : Exit→Act→World→Prop} (hgd:o.guard=none) (s x:Operand) (t:TypeId)
  (ho:o.op=.call { callee:=.builtin .append,args:=#[s,x],argTypes:=#[t,t] })
  (base:Nat) (e:TypeId) (z:Value) (sz bytes:Nat) (ht:P.underlying t=some (.slice e)) (hinfo:(P.info? e).map (fun i=>(i.zero,i.size,i.bytes))=some (some z,sz,bytes)) (hz:z.cells.size=sz) (hsz:0<sz) (hby:bytes≤1000)
  (v xv:Value) (n m:Nat) (xs ys:List Value) (hs:a.eval s=v) (hx:a.eval x=xv) (hown:w.ownsRow base e sz v n xs) (hl:Vu w xv m ys) (hlm:ys.length=m*sz) (hlen:n+m≤1000000) (h1:∀ u∈ys,u.oneCell'=true) (hle:base≤w.heap.size)
  (h:∀ v' w',w'.ownsRow base e sz v' (n+m) (xs++ys)→Zb (fun q=>v.ownBlock=some q) w w'→wpList P ops Q rest (a.put o.dst v') w'):wpList P ops Q (o::rest) a w:=by
 obtain⟨i,hi,hz0,hz1,hz2⟩:=info_parts hinfo
 have hbb:(n+m)*bytes≤140737488355328:=Nat.le_trans (Nat.mul_le_mul hlen hby) (by decide)
 have key:∀ (ad:Addr) (c:Nat),a.eval x=.slice (some ad) m c→(∀ (j:Nat) (u:Value),ys[j]? = some u→w.cell? (ad.add j)=some u)→wpList P ops Q (o::rest) a w:=fun ad c hx2 hnews =>
  YG hgd s x t ho base e i z sz bytes ht hi hz0 hz1 hz2 hz hsz v n xs hs hown ad m c ys hx2 hlm hnews h1 (by unfold maxLen;omega) hbb hle fun v' w' a1 a2 _=>h v' w' a1 a2
 rcases hl with ⟨ad,hv,rfl,rfl⟩|⟨ad,c,hv,hcell⟩
 ·cases ad with
  | none=>exact wpList_append_own_none hgd s x t ho base e i sz ht hi v _ _ hs hown (hx.trans hv) (h v w (by simpa using hown) (Zb.refl _ w))
  | some ad=>exact key ad 0 (hx.trans hv) fun j u hu=>by cases hu
 ·exact key ad c (hx.trans hv) hcell
theorem Vu.keep {w w':World} {xv:Value} {m : Nat} {xs:List Value} (h:Vu w xv m xs) (hb:∀ q,xv.ownBlock=some q→q<w.heap.size) (s:Since w w'):Vu w' xv m xs:=by
 rcases h with h|⟨ad,c,hv,hc⟩
 ·exact .inl h
 ·refine .inr ⟨ad,c,hv,fun j u hu=>?_⟩
  rw[s.cell (p:=ad.add j) (by
   have:=hb ad.block (by rw[hv];rfl)
   unfold Addr.add
   split<;>exact this)]
  exact hc j u hu
theorem Vu.keep2 {w w':World} {xv:Value} {m : Nat} {xs:List Value} (h:Vu w xv m xs) (hb:∀ q,xv.ownBlock=some q→xs=[]∨q<w.heap.size) (s:Since w w'):Vu w' xv m xs:=by
 by_cases h0:xs=[]
 ·subst h0
  rcases h with h|⟨ad,c,hv,hc⟩
  ·exact .inl h
  ·exact .inr ⟨ad,c,hv,fun j u hu=>by cases hu⟩
 ·exact h.keep (fun q hq=>(hb q hq).resolve_left h0) s
theorem src_take {w : World} {b off n c k:Nat} {L : List PlV} (h:Pls w (.slice (some ⟨b,off,none⟩) n c) L) (hk:k≤L.length):Vu w (.slice (some ⟨b,off,none⟩) k c) k ((L.take k).flatMap plcells):=by
 refine .inr ⟨_,c,rfl,fun j u hu=>?_⟩
 obtain⟨i,t,y,rfl,hy,ht,hu2⟩:=Jt plcells 9 Zq (by decide) _ j u hu
 have hi:i<k:=by have:=(List.getElem?_eq_some_iff.1 hy).1;rw[List.length_take]at this;omega
 rw[List.getElem?_take_of_lt hi]at hy
 obtain⟨b2,off2,y2,e,_,hy2,hc,_⟩:=RowIn.at h (k:=i) (by omega)
 cases e
 rw[hy]at hy2
 cases hy2
 rw[Km,←Nat.add_assoc,hc t ht,hu2]
theorem src_drop {w : World} {b off n c k:Nat} {L : List PlV} (h:Pls w (.slice (some ⟨b,off,none⟩) n c) L) (hk:k≤L.length) {a : Option Addr} {m d:Nat} (hm:m=L.length-k) (ha:(if c=k then some (⟨b,off,none⟩:Addr) else some ⟨b,off+k*9,none⟩)=a) (hc:n≤c) (hn:n=L.length):Vu w (.slice a m d) m ((L.drop k).flatMap plcells):=by
 subst hm
 by_cases e:L.length-k=0
 ·rw[e,List.drop_eq_nil_of_le (by omega)]
  obtain⟨ad,had⟩:∃ ad,a=some ad:=by rw[←ha];split<;>exact⟨_,rfl⟩
  exact .inr ⟨ad,d,by rw[had],fun j u hu=>by cases hu⟩
 rw[if_neg (by omega)]at ha
 subst ha
 refine .inr ⟨_,d,rfl,fun j u hu=>?_⟩
 obtain⟨i,t,y,rfl,hy,ht,hu2⟩:=Jt plcells 9 Zq (by decide) _ j u hu
 rw[List.getElem?_drop]at hy
 have hi:k+i<L.length:=(List.getElem?_eq_some_iff.1 hy).1
 obtain⟨b2,off2,y2,e2,_,hy2,hc2,_⟩:=RowIn.at h (k:=k+i) hi
 cases e2
 rw[hy]at hy2
 cases hy2
 rw[Km,show off+k*9+(i*9+t)=off+(k+i)*9+t from by omega,hc2 t ht,hu2]
theorem pls_where {w : World} {a : Option Addr} {n c:Nat} {L : List PlV} (h:Pls w (.slice a n c) L):(n=0∧c=0∧L=[])∨∃ b off,a=some ⟨b,off,none⟩∧b<w.heap.size∧n≤c∧n=L.length:=by
 rcases h with ⟨_,h1,h2⟩|⟨b,off,cap,h1,h2,_,h4,_⟩
 ·cases h1;exact .inl ⟨rfl,rfl,h2⟩
 ·cases h1;exact .inr ⟨b,off,rfl,h4,h2,rfl⟩
theorem Vu.step {w w':World} {a : Option Addr} {n c m d:Nat} {L : List PlV} {xs:List Value} (h:Pls w (.slice a n c) L) {a':Option Addr} (h2:Vu w (.slice a' m d) m xs) (hb:∀ q,a'.map (·.block)=some q→q<w.heap.size) (s:Since w w'):Vu w' (.slice a' m d) m xs:=
 h2.keep (fun q hq=>hb q (by cases a'<;>exact hq)) s
end Go.Proofs.YtimpddecdodddaaGreat
namespace Go.Proofs.YtimpddecdodddaaGreat
open Go.RowKit Go.ChangeShapes Go.WideShapes
set_option linter.unusedVariables false
theorem flat_to:∀ (l:List Zx) (b:Nat) (y:Zx) (tl:List Int) (v:Value),l[b]? = some y→(l.flatMap blcells).set (b*6+4) v=(l.set b ⟨y.ins,y.insv,⟨y.fin.op,y.fin.a,y.fin.b,tl,v,y.fin.imm⟩⟩).flatMap blcells
 | [],b,y,tl,v,h=>by cases h
 | a::r,0,y,tl,v,h=>by
  cases h
  rw[List.flatMap_cons,List.set_cons_zero,List.flatMap_cons]
  simp only[blcells,List.cons_append,List.nil_append,Nat.zero_mul,Nat.zero_add,List.set_cons_zero,List.set_cons_succ]
 | a::r,b+1,y,tl,v,h=>by
  rw[List.flatMap_cons,List.set_append_right _ _ (by rw[Z5];omega),Z5,show (b+1)*6+4-6=b*6+4 from by omega,flat_to r b y tl v h]
  rfl
theorem row_setTo {B : Nat} {w : World} {g cap n:Nat} {l : List Zx} {b : Nat} {y : Zx} (tl:List Int) (v:Value) (h:OwnRow blcells 6 34 B w (.slice (some ⟨g,0,none⟩) n cap) l) (hb:l[b]? = some y) :
  OwnRow blcells 6 34 B (w.setCell ⟨g,b*6+4,none⟩ v) (.slice (some ⟨g,0,none⟩) n cap) (l.set b ⟨y.ins,y.insv,⟨y.fin.op,y.fin.a,y.fin.b,tl,v,y.fin.imm⟩⟩):=by
 obtain⟨a',c',e⟩:=Ze (show w.ownsRow _ _ _ _ _ _ from h)
 have hn:n=l.length:=by cases e;rfl
 subst hn
 have h1:=ZV (show w.ownsRow _ _ _ _ _ _ from h) (b*6+4) v
 rw[flat_to l b y tl v hb]at h1
 unfold OwnRow
 rw[List.length_set]
 exact h1
structure OwnB (B:Nat) (w:World) (x y:Zx):Prop where
 ins:y.ins=x.ins
 fin:y.fin.op=x.fin.op∧y.fin.a=x.fin.a∧y.fin.b=x.fin.b∧y.fin.to=x.fin.to∧y.fin.imm=x.fin.imm
 insv:OwnRow plcells 9 38 B w y.insv y.ins
 tov:w.ownsRow B 3 1 y.fin.tov y.fin.to.length (y.fin.to.map (Value.int .i64))
theorem OwnB.keep {B : Nat} {w w':World} {x y:Zx} (h:OwnB B w x y) (s:Since w w'):OwnB B w' x y:=⟨h.ins,h.fin,Zv h.insv s,Zv h.tov s⟩
theorem OwnB.turn {B : Nat} {w w':World} {x y:Zx} {T : Nat→Prop} {U : TypeId} (h:OwnB B w x y) (t:Zb T w w') (k:Kin w U T) (h1:38≠U) (h2:3≠U):OwnB B w' x y:=
 ⟨h.ins,h.fin,Zg (show w.ownsRow _ _ _ _ _ _ from h.insv) t (k.apart (show w.ownsRow _ _ _ _ _ _ from h.insv) h1),Zg h.tov t (k.apart h.tov h2)⟩
theorem own_kin {B g n c:Nat} {w : World} {l : List Zx} (h:OwnRow blcells 6 34 B w (.slice (some ⟨g,0,none⟩) n c) l):Kin w 34 (fun q=>q=g):=fun q e=>by
 obtain⟨cur,hc⟩:=Wt (show w.ownsRow _ _ _ _ _ _ from h) (q:=g) rfl
 exact⟨cur,by rw[e];exact hc⟩
def ApartL (f:Zx→Value) (k:Nat) (l:List Zx):Prop:=∀ (t1 t2:Nat) (y1 y2:Zx) (q:Nat),t1<k→t2<k→t1≠t2→l[t1]? = some y1→l[t2]? = some y2→(f y1).ownBlock=some q→¬ (f y2).ownBlock=some q
theorem ApartL.next {f : Zx→Value} {k N:Nat} {l : List Zx} (h:ApartL f k l) (hk:k<l.length) (y:Zx) (hy:∀ q,(f y).ownBlock=some q→N≤q) (ho:∀ (t:Nat) (z:Zx),t<k→l[t]? = some z→∀ q,(f z).ownBlock=some q→q<N):ApartL f (k+1) (l.set k y):=fun t1 t2 y1 y2 q h1 h2 hne a1 a2 b1 b2=>by
 by_cases e1:t1=k
 ·subst e1
  rw[List.getElem?_set_self hk]at a1
  cases a1
  rw[List.getElem?_set_ne hne]at a2
  have:=ho t2 y2 (by omega) a2 q b2
  have:=hy q b1
  omega
 ·rw[List.getElem?_set_ne (fun e=>e1 e.symm)]at a1
  by_cases e2:t2=k
  ·subst e2
   rw[List.getElem?_set_self hk]at a2
   cases a2
   have:=ho t1 y1 (by omega) a1 q b1
   have:=hy q b2
   omega
  ·rw[List.getElem?_set_ne (fun e=>e2 e.symm)]at a2
   exact h t1 t2 y1 y2 q (by omega) (by omega) hne a1 a2 b1 b2
structure OwS (w0:World) (g n c:Nat) (pbl cur:List Zx) (k:Nat) (w:World):Prop where
 row:OwnRow blcells 6 34 w0.heap.size w (.slice (some ⟨g,0,none⟩) n c) cur
 old:Since w0 w
 len:cur.length=pbl.length
 each:∀ (t:Nat) (x y:Zx),pbl[t]? = some x→cur[t]? = some y→(t<k→OwnB w0.heap.size w x y)∧(k≤t→y=x)
 apI:ApartL (fun y=>y.insv) k cur
 apT:ApartL (fun y=>y.fin.tov) k cur
theorem OwS.keep {w0 w w':World} {g n c k:Nat} {pbl cur:List Zx} (h:OwS w0 g n c pbl cur k w) (s:Since w w'):OwS w0 g n c pbl cur k w':=
 ⟨Zv h.row s,h.old.trans s,h.len,fun t x y hx hy=>⟨fun ht=>((h.each t x y hx hy).1 ht).keep s,(h.each t x y hx hy).2⟩,h.apI,h.apT⟩
theorem OwS.low {w0 w:World} {g n c k:Nat} {pbl cur:List Zx} (h:OwS w0 g n c pbl cur k w):w0.heap.size≤g:=(World.ownsRow.lt (show w.ownsRow _ _ _ _ _ _ from h.row) g rfl).1
theorem OwS.at {w0 w:World} {g n c k:Nat} {pbl cur:List Zx} (h:OwS w0 g n c pbl cur k w) {x : Zx} (hx:pbl[k]? = some x):cur[k]? = some x:=by
 have hl:k<cur.length:=by have:=(List.getElem?_eq_some_iff.1 hx).1;have:=h.len;omega
 have h1:=(h.each k x _ hx (List.getElem?_eq_getElem hl)).2 (Nat.le_refl _)
 rw[List.getElem?_eq_getElem hl,h1]
theorem OwS.step {w0 wr w1 w3:World} {g n c k:Nat} {pbl cur:List Zx} (h:OwS w0 g n c pbl cur k wr) {x : Zx} (hx:pbl[k]? = some x) {v5 v6:Value} (s1:Since wr w1)
  (o5:w1.ownsRow wr.heap.size 38 9 v5 x.ins.length (x.ins.flatMap plcells)) (s3:Since (w1.setCell ⟨g,k*6,none⟩ v5) w3)
  (o6:w3.ownsRow (w1.setCell ⟨g,k*6,none⟩ v5).heap.size 3 1 v6 x.fin.to.length (x.fin.to.map (Value.int .i64))) :
  OwS w0 g n c pbl (cur.set k ⟨x.ins,v5,⟨x.fin.op,x.fin.a,x.fin.b,x.fin.to,v6,x.fin.imm⟩⟩) (k+1) (w3.setCell ⟨g,k*6+4,none⟩ v6):=by
 have hk:=h.at hx
 have hkl:k<cur.length:=(List.getElem?_eq_some_iff.1 hk).1
 have h1:=h.keep s1
 have r2:=KA x.ins v5 h1.row hk
 have t2:Zb (fun q=>q=g) w1 (w1.setCell ⟨g,k*6,none⟩ v5):=(Zb.refl (fun q=>q=g) w1).setCell (p:=⟨g,k*6,none⟩) rfl _
 have k1:=own_kin h1.row
 have r3:=Zv (show World.ownsRow _ _ _ _ _ _ _ from r2) s3
 have r4:=row_setTo x.fin.to v6 (show OwnRow blcells 6 34 _ w3 _ _ from r3) (List.getElem?_set_self (by exact hkl))
 have t4:Zb (fun q=>q=g) w3 (w3.setCell ⟨g,k*6+4,none⟩ v6):=(Zb.refl (fun q=>q=g) w3).setCell (p:=⟨g,k*6+4,none⟩) rfl _
 have k3:=own_kin (show OwnRow blcells 6 34 _ w3 _ _ from r3)
 have hlow:=h.low
 have sz1:wr.heap.size≤w1.heap.size:=s1.size
 have sz2:w1.heap.size≤(w1.setCell ⟨g,k*6,none⟩ v5).heap.size:=t2.size
 have old:=h.old.size
 rw[List.set_set]at r4
 refine⟨r4,t4.toSince ((t2.toSince h1.old fun q hq e=>by omega).trans s3) (fun q hq e=>by omega),by rw[List.length_set];exact h.len,fun t x' y hx' hy=>?_,h.apI.next hkl _ (fun q hq=>(World.ownsRow.lt o5 q hq).1) (fun t z ht hz q hq=>?_),h.apT.next hkl _ (fun q hq=>Nat.le_trans (Nat.le_trans sz1 sz2) (World.ownsRow.lt o6 q hq).1) (fun t z ht hz q hq=>?_)⟩
 rotate_left
 ·obtain⟨x',hx'⟩:∃ x',pbl[t]? = some x':=⟨_,List.getElem?_eq_getElem (by have:=h.len;omega)⟩
  exact (World.ownsRow.lt (show wr.ownsRow _ _ _ _ _ _ from ((h.each t x' z hx' hz).1 ht).insv) q hq).2
 ·obtain⟨x',hx'⟩:∃ x',pbl[t]? = some x':=⟨_,List.getElem?_eq_getElem (by have:=h.len;omega)⟩
  exact (World.ownsRow.lt ((h.each t x' z hx' hz).1 ht).tov q hq).2
 by_cases e:t=k
 ·subst e
  rw[hx]at hx'
  cases hx'
  rw[List.getElem?_set_self hkl]at hy
  cases hy
  refine⟨fun _=>⟨rfl,⟨rfl,rfl,rfl,rfl,rfl⟩,?_,?_⟩,fun h=>absurd h (by omega)⟩
  ·have a1:=Zg o5 t2 (k1.apart o5 (by decide))
   have a2:=Zv a1 s3
   have a3:=Zg a2 t4 (k3.apart a2 (by decide))
   exact XX a3 old
  ·have a3:=Zg o6 t4 (k3.apart o6 (by decide))
   exact XX a3 (by omega)
 ·rw[List.getElem?_set_ne (fun e2=>e e2.symm)]at hy
  have a:=h1.each t x' y hx' hy
  refine⟨fun ht=>?_,fun ht=>a.2 (by omega)⟩
  have a1:=(a.1 (by omega)).turn t2 k1 (by decide) (by decide)
  exact (a1.keep s3).turn t4 k3 (by decide) (by decide)
theorem pls_blk {w : World} {v : Value} {l : List Zx} (h:Za5 w v l) {t : Nat} {x : Zx} (hx:l[t]? = some x):BlkOk w x:=RowIn.each_of h _ (List.mem_of_getElem? hx)
structure OwnG (B:Nat) (w:World) (p q:Z2):Prop where
 params:q.params=p.params
 k:q.k=p.k
 slots:q.slots=p.slots
 row:OwnRow blcells 6 34 B w q.bv q.blocks
 len:q.blocks.length=p.blocks.length
 each:∀ (t:Nat) (x y:Zx),p.blocks[t]? = some x→q.blocks[t]? = some y→OwnB B w x y
 apI:ApartL (fun y=>y.insv) q.blocks.length q.blocks
 apT:ApartL (fun y=>y.fin.tov) q.blocks.length q.blocks
set_option maxHeartbeats 4000000 in
set_option maxRecDepth 100000 in
theorem own12_any (p:Z2) (w:World) (hp:Xz w p) (h0:0<p.blocks.length) (hto:∀ x∈p.blocks,x.fin.to.length≤100000) :
  Calls Tryz.prog 9 #[pv p] w (fun e w'=>∃ q:Z2,e=.returned (pv q)∧OwnG w.heap.size w' p q∧Since w w'):=by
 obtain⟨pp,pk,ps,pbl,pbv⟩:=p
 obtain⟨pa,pc,hpv,_⟩:=RowIn.shape hp.1
 obtain⟨n,hnn⟩:∃ z,pbl.length=z:=⟨_,rfl⟩
 dsimp only at hpv h0 hto
 have hn1:n≤100000:=by rw[←hnn];exact hp.2
 rw[hnn]at hpv h0
 subst hpv
 have HP:=Lib.hid (show Za5 w (.slice pa n pc) pbl from hp.1)
 have HN:=Lib.hid hnn
 have HTO:=Lib.hid hto
 have HSRC:=Lib.hid (show Vu w (.slice pa n pc) n (pbl.flatMap blcells) from by have h:=ZaY HP.out;rw[hnn]at h;exact h)
 have HONE:=Lib.hid (ZaZ HP.out)
 have HFL:=Lib.hid (show (pbl.flatMap blcells).length=n*6 from by rw[Q9,hnn])
 clear hp hnn hto
 unfold pv
 dsimp only
 go_enter Tryz.func9,Tryz.ntmps9
 go_upto_region 1 with fail
 obtain⟨w1,hw1⟩:∃ z,z=(w.alloc (.cells #[.int .i64 pp,.int .i64 pk,.int .i64 ps,.slice pa n pc] 27)).alloc (.cells #[.int .i64 0,.int .i64 0,.int .i64 0,.slice none 0 0] 27):=⟨_,rfl⟩
 obtain⟨pb,hpb⟩:∃ z,z=w.heap.size:=⟨_,rfl⟩
 obtain⟨rb,hrb⟩:∃ z,z=w.heap.size+1:=⟨_,rfl⟩
 have HPB:=Lib.hid (show HeapIs w1 pb #[.int .i64 pp,.int .i64 pk,.int .i64 ps,.slice pa n pc] 27 from by rw[hw1,hpb];exact (HeapIs.new _ _ _).keep ((Since.refl _).alloc _))
 have HRB:=Lib.hid (show HeapIs w1 rb #[.int .i64 0,.int .i64 0,.int .i64 0,.slice none 0 0] 27 from by
  have h:=HeapIs.new (w.alloc (.cells #[.int .i64 pp,.int .i64 pk,.int .i64 ps,.slice pa n pc] 27)) #[.int .i64 0,.int .i64 0,.int .i64 0,.slice none 0 0] 27
  rw[hw1,hrb]
  simpa using h)
 have HS1:=Lib.hid (show Since w w1 from by rw[hw1];exact ((Since.refl _).alloc _).alloc _)
 have HPL:=Lib.hid (And.intro HPB.out.lt HRB.out.lt)
 have HLT:=Lib.hid (show w.heap.size≤pb∧w.heap.size≤rb∧pb≠rb from by omega)
 have HBW:=Lib.hid (show ∀ q,(Value.slice pa n pc).ownBlock=some q→q<w.heap.size from fun q hq=>by
  rcases HP.out with ⟨_,h1,h2⟩|⟨b,off,cap,h1,_,_,h2,_⟩
  ·cases h1;omega
  ·cases h1;cases hq;exact h2)
 have hp3:=HPB.out.cell 3
 have hpl:=HPB.out.lt
 rw[←hw1,←hrb,←hpb]
 clear hw1 hrb hpb
 go_upto_region 2 with (at_builtin;(refine Z7 (w0:=w1) rfl _ _ 25 rfl 34 (.agg #[.slice none 0 0,.int .i64 0,.int .i64 0,.int .i64 0,.slice none 0 0,.int .i32 0]) 6 80 Tryz.underlying25 (by kernel_rfl) rfl (by decide) (by decide) (.slice (some ⟨w1.heap.size,0,none⟩) 0 0) (.slice pa n pc) n (pbl.flatMap blcells) rfl rfl (IsNilOf.new (Nat.le_refl _)) (HSRC.out.keep HBW.out (HS1.out.trans ((Since.refl _).alloc _))) HFL.out hn1 HONE.out (by simp) ?_);(intro v2 w2 hown2 hs2;obtain⟨g,c,hv2,hg,hgl,hrow⟩:=JZ hown2 HN.out h0;subst hv2;have HROW:=Lib.hid hrow;have HS12:=Lib.hid (((Since.refl w1).alloc _).trans hs2);have HG:=Lib.hid (And.intro hg hgl);clear hown2 hs2 hrow hg hgl hp3 hpl))
 have HPB2:=Lib.hid (HPB.out.keep HS12.out)
 have HRB2:=Lib.hid (HRB.out.keep HS12.out)
 have HO2:=Lib.hid (show OwS w g n c pbl pbl 0 w2 from⟨XX (show w2.ownsRow _ _ _ _ _ _ from HROW.out) HS1.out.size,HS1.out.trans HS12.out,rfl,fun t x y hx hy=>⟨fun h=>absurd h (by omega),fun _=>Option.some.inj (hy.symm.trans hx)⟩,fun t1 _ _ _ _ h=>absurd h (by omega),fun t1 _ _ _ _ h=>absurd h (by omega)⟩)
 clear HROW
 go_wp2_with fail
 go_loopw [4] (fun iv wr=>∃ (k:Nat) (cur:List Zx),iv=.int .i64 k∧k≤n∧OwS w g n c pbl cur k wr∧HeapIs wr pb #[.int .i64 pp,.int .i64 pk,.int .i64 ps,.slice pa n pc] 27∧HeapIs wr rb #[.int .i64 0,.int .i64 0,.int .i64 0,.slice none 0 0] 27) (fun iv _=>n-(intOf iv).toNat)
 case atStart=>exact⟨0,pbl,rfl,Nat.zero_le _,HO2.out,HPB2.out,HRB2.out⟩
 case round =>
  obtain⟨k,cur,rfl,hk,ho,hpb,hrb⟩:=hrel
  have HO:=Lib.hid ho
  have HPBr:=Lib.hid hpb
  have HRBr:=Lib.hid hrb
  clear ho hpb hrb HPB2 HRB2 HO2 HPB HRB
  by_cases hlt:k<n
  ·obtain⟨x,hx⟩:∃ x,pbl[k]? = some x:=⟨_,List.getElem?_eq_getElem (by rw[HN.out];exact hlt)⟩
   have hbk:=pls_blk HP.out hx
   have hto:=HTO.out x (List.mem_of_getElem? hx)
   obtain⟨ins,insv,fop,fa,fb,fto,ftov,fimm⟩:=x
   obtain⟨ia,ic,hiv,_⟩:=RowIn.shape hbk.1
   obtain⟨ta,tc,htv⟩:=Zc hbk.2.1
   dsimp only at hiv htv hto
   have hkb:=hbk.2.2
   dsimp only at hkb
   obtain⟨kn,hkn⟩:∃ z,ins.length=z:=⟨_,rfl⟩
   obtain⟨tn,htn⟩:∃ z,fto.length=z:=⟨_,rfl⟩
   rw[hkn]at hiv hkb
   rw[htn]at htv hto
   subst hiv htv
   have HX:=Lib.hid hx
   have HKN:=Lib.hid hkn
   have HTN:=Lib.hid htn
   have HSI:=Lib.hid (show Vu w (.slice ia kn ic) kn (ins.flatMap plcells) from by have h:=Zbr hbk.1;dsimp only at h;rw[hkn]at h;exact h)
   have HOI:=Lib.hid (Zbs hbk.1)
   have HFI:=Lib.hid (show (ins.flatMap plcells).length=kn*9 from by rw[Zax,hkn])
   have HIB:=Lib.hid (show ∀ q,(Value.slice ia kn ic).ownBlock=some q→ins.flatMap plcells=[]∨q<w.heap.size from fun q hq=>by
    rcases pls_where (show Pls w (.slice ia kn ic) ins from hbk.1) with ⟨_,_,h⟩|⟨b,off,rfl,hb,_⟩
    ·exact .inl (by rw[h];rfl)
    ·cases hq;exact .inr hb)
   have HTB:=Lib.hid (show ∀ q,(Value.slice ta tn tc).ownBlock=some q→fto.map (Value.int .i64)=[]∨q<w.heap.size from fun q hq=>by
    rcases (show Zd w (.slice ta tn tc) fto from hbk.2.1) with ⟨_,_,h⟩|⟨b,off,cap,h1,_,_,hb,_⟩
    ·exact .inl (by rw[h];rfl)
    ·cases h1;cases hq;exact .inr hb)
   have HST:=Lib.hid (show Vu w (.slice ta tn tc) tn (fto.map (Value.int .i64)) from by have h:=VD hbk.2.1;dsimp only at h;rw[htn]at h;exact h)
   have HFT:=Lib.hid (show (fto.map (Value.int .i64)).length=tn*1 from by rw[List.length_map,htn,Nat.mul_one])
   have HOT:=Lib.hid (show ∀ u∈fto.map (Value.int .i64),u.oneCell'=true from fun u hu=>by obtain⟨z,_,rfl⟩:=List.mem_map.1 hu;rfl)
   have hc:=Xv Z5 HO.out.row (HO.out.at hx)
   have hc0:wr.cell? ⟨g,k*6,none⟩=some (.slice ia kn ic):=hc.1 0 (by decide)
   have hcl:=hc.2.1
   have hcf:=hc.2.2
   clear hx hkn htn hbk hc
   go_wp2_with (at_builtin;first | ((refine Z7 (w0:=wr) rfl _ _ 30 rfl 38 (.agg #[.int .i64 0,.int .i64 0,.int .i64 0,.int .i64 0,.int .i64 0,.int .i64 0,.int .i32 0,.slice none 0 0,.int .i64 0]) 9 88 Tryz.underlying30 (by kernel_rfl) rfl (by decide) (by decide) (.slice (some ⟨wr.heap.size,0,none⟩) 0 0) (.slice ia kn ic) kn (ins.flatMap plcells) rfl rfl (IsNilOf.new (Nat.le_refl _)) (HSI.out.keep2 HIB.out (HO.out.old.trans ((Since.refl _).alloc _))) HFI.out hkb HOI.out (by simp) ?_);(intro v5 w5 ho5 hs5;obtain⟨a5,c5,hv5⟩:=Ze ho5;subst hv5;have HS5:=Lib.hid (((Since.refl wr).alloc _).trans hs5);have HO5:=Lib.hid ho5;have hr:=(HO.out.keep HS5.out);have hc:=Xv Z5 hr.row (hr.at HX.out);have hr2:=Xv Z5 (KA ins (.slice a5 kn c5) hr.row (hr.at HX.out)) (List.getElem?_set_self (List.getElem?_eq_some_iff.1 (hr.at HX.out)).1);clear hc0 hcl hcf ho5 hs5 hr;have hcl:=hc.2.1;have hcf:=hc.2.2;have hc0:w5.cell? ⟨g,k*6,none⟩=some (.slice ia kn ic):=hc.1 0 (by decide);have hc4:(w5.setCell ⟨g,k*6,none⟩ (.slice a5 kn c5)).cell? ⟨g,k*6+1+3,none⟩=some (.slice ta tn tc):=hr2.1 4 (by decide);have hc5:w5.cell? ⟨g,k*6+1+3,none⟩=some (.slice ta tn tc):=hc.1 4 (by decide);clear hc hr2)) | (
    have hz:w5.heap.size=(w5.setCell ⟨g,k*6,none⟩ (.slice a5 kn c5)).heap.size:=by simp
    rw[hz]
    have HT6:=Lib.hid ((Zb.refl (fun q=>q=g) w5).setCell (p:=⟨g,k*6,none⟩) rfl (.slice a5 kn c5))
    have HS6:=Lib.hid (HT6.out.toSince (HO.out.old.trans HS5.out) fun q hq e=>by have h1:=HG.out.1;have h2:=HS1.out.size;omega)
    have HR6:=Lib.hid (KA ins (.slice a5 kn c5) (HO.out.keep HS5.out).row ((HO.out.keep HS5.out).at HX.out))
    have HK6:=Lib.hid (show (cur.set k ⟨ins,.slice a5 kn c5,⟨fop,fa,fb,fto,.slice ta tn tc,fimm⟩⟩)[k]? = some _ from List.getElem?_set_self (List.getElem?_eq_some_iff.1 (HO.out.at HX.out)).1)
    obtain⟨w6,hw6⟩:∃ z,z=w5.setCell ⟨g,k*6,none⟩ (.slice a5 kn c5):=⟨_,rfl⟩
    rw[←hw6]at hc4 ⊢
    have HW6:=Lib.hid hw6
    rw[←hw6]at HT6 HS6 HR6
    clear hw6 hz hc4 hc5 hc0 hcl hcf
    (refine Z7 (w0:=w6) rfl _ _ 22 rfl 3 (.int .i64 0) 1 8 Tryz.underlying22 (by kernel_rfl) rfl (by decide) (by decide) (.slice (some ⟨w6.heap.size,0,none⟩) 0 0) (.slice ta tn tc) tn (fto.map (Value.int .i64)) rfl rfl (IsNilOf.new (Nat.le_refl _)) (HST.out.keep2 HTB.out (HS6.out.trans ((Since.refl _).alloc _))) HFT.out hto HOT.out (by simp) ?_)
    intro v7 w7 ho7 hs7
    obtain⟨a7,c7,hv7⟩:=Ze ho7
    subst hv7
    have HS7:=Lib.hid (((Since.refl w6).alloc _).trans hs7)
    have HO7:=Lib.hid ho7
    have hc:=Xv Z5 (show OwnRow blcells 6 34 _ w7 _ _ from Zv (show World.ownsRow _ _ _ _ _ _ _ from HR6.out) HS7.out) HK6.out
    have hc4:w7.cell? ⟨g,k*6+1+3,none⟩=some (.slice ta tn tc):=hc.1 4 (by decide)
    have hcl:=hc.2.1
    have hcf:=hc.2.2
    clear hc ho7 hs7))
   have hw6:=HW6.out
   subst hw6
   have HT8:=Lib.hid ((Zb.refl (fun q=>q=g) w7).setCell (p:=⟨g,k*6+1+3,none⟩) rfl (.slice a7 tn c7))
   have hne:=HPL.out
   have hgl:=HG.out.1
   refine⟨⟨k+1,_,by push_cast;rfl,by omega,HO.out.step HX.out HS5.out (show w5.ownsRow _ _ 9 _ ins.length _ from by rw[HKN.out];exact HO5.out) HS7.out (show w7.ownsRow _ _ 1 _ fto.length _ from by rw[HTN.out];exact HO7.out),?_,?_⟩,by simp[intOf];omega⟩
   ·exact (((HPBr.out.keep HS5.out).turn HT6.out (by omega)).keep HS7.out).turn HT8.out (by omega)
   ·exact (((HRBr.out.keep HS5.out).turn HT6.out (by omega)).keep HS7.out).turn HT8.out (by omega)
  ·obtain rfl:n=k:=by omega
   have hp:=HPBr.out
   have hp0:=hp.cell 0
   have hp1:=hp.cell 1
   have hp2:=hp.cell 2
   have hp3:=hp.cell 3
   have hpl:=hp.lt
   have hpf:=hp.frozen
   have hr:=HRBr.out
   have hr0:=hr.cell 0
   have hr1:=hr.cell 1
   have hr2:=hr.cell 2
   have hr3:=hr.cell 3
   have hrl:=hr.lt
   have hrf:=hr.frozen
   have hne:¬ pb=rb:=HLT.out.2.2
   have hne2:¬ rb=pb:=fun e=>HLT.out.2.2 e.symm
   clear hp hr
   go_wp2_with fail
   have t1:Zb (fun q=>q=pb∨q=rb) wr (wr.setCell ⟨pb,3,none⟩ (.slice (some ⟨g,0,none⟩) n c)):=(Zb.refl (fun q=>q=pb∨q=rb) wr).setCell (p:=⟨pb,3,none⟩) (.inl rfl) _
   have t5:=(((t1.setCell (p:=⟨rb,0,none⟩) (.inr rfl) (.int .i64 pp)).setCell (p:=⟨rb,1,none⟩) (.inr rfl) (.int .i64 pk)).setCell (p:=⟨rb,2,none⟩) (.inr rfl) (.int .i64 ps)).setCell (p:=⟨rb,3,none⟩) (.inr rfl) (.slice (some ⟨g,0,none⟩) n c)
   have hb:=HRBr.out.turn ((Zb.refl (fun q=>q=pb) wr).setCell (p:=⟨pb,3,none⟩) rfl (.slice (some ⟨g,0,none⟩) n c)) hne2
   have hres:=(((hb.set 0 (.int .i64 pp)).set 1 (.int .i64 pk)).set 2 (.int .i64 ps)).set 3 (.slice (some ⟨g,0,none⟩) n c)
   have hkin:Kin wr 27 (fun q=>q=pb∨q=rb):=fun q e=>by
    rcases e with rfl|rfl
    ·exact⟨_,HPBr.out⟩
    ·exact⟨_,HRBr.out⟩
   try simp only[Exit.inBlock,Exit.then]
   refine bodyPost_ret (results_cell_row rfl _ _ rb 27 #[.int .i64 pp,.int .i64 pk,.int .i64 ps,.slice (some ⟨g,0,none⟩) n c] (0,0) _ rfl hres Tryz.underlying27 rfl (by kernel_rfl)) rfl ?_
   refine⟨⟨pp,pk,ps,cur,.slice (some ⟨g,0,none⟩) n c⟩,rfl,⟨rfl,rfl,rfl,Zg (show wr.ownsRow _ _ _ _ _ _ from HO.out.row) t5 (hkin.apart (show wr.ownsRow _ _ _ _ _ _ from HO.out.row) (by decide)),HO.out.len,fun t x y hx hy=>?_,by have h:=HO.out.apI;rw[←HN.out,←HO.out.len]at h;exact h,by have h:=HO.out.apT;rw[←HN.out,←HO.out.len]at h;exact h⟩,t5.toSince HO.out.old fun q hq e=>by have:=HLT.out;omega⟩
   exact ((HO.out.each t x y hx hy).1 (by have:=(List.getElem?_eq_some_iff.1 hx).1;have h:=HN.out;dsimp only at this;omega)).turn t5 hkin (by decide) (by decide)
end Go.Proofs.YtimpddecdodddaaGreat
namespace Go.Proofs.YtimpddecdodddaaGreat
open Go.RowKit Go.ChangeShapes Go.WideShapes
set_option linter.unusedVariables false
def LowPl (B:Nat) (w:World) (z:PlV):Prop:=Zd w z.av z.m.args∧Xt z.m∧∀ q,z.av.ownBlock=some q→q<B
theorem LowPl.turn {B : Nat} {w w':World} {z : PlV} {T : Nat→Prop} (h:LowPl B w z) (t:Zb T w w') (hl:∀ q,T q→B≤q):LowPl B w' z:=⟨h.1.turn t fun q hq e=>by have:=h.2.2 q hq;have:=hl q e;omega,h.2⟩
structure PsB (B:Nat) (w:World) (y:Zx):Prop where
 insv:OwnRow plcells 9 38 B w y.insv y.ins
 tov:w.ownsRow B 3 1 y.fin.tov y.fin.to.length (y.fin.to.map (Value.int .i64))
 low:∀ z∈y.ins,LowPl B w z
 few:y.ins.length≤90000
theorem PsB.turn {B : Nat} {w w':World} {y : Zx} {T : Nat→Prop} (h:PsB B w y) (t:Zb T w w') (hl:∀ q,T q→B≤q) (h1:∀ q,y.insv.ownBlock=some q→¬ T q) (h2:∀ q,y.fin.tov.ownBlock=some q→¬ T q):PsB B w' y:=
 ⟨Zg (show w.ownsRow _ _ _ _ _ _ from h.insv) t h1,Zg h.tov t h2,fun z hz=>(h.low z hz).turn t hl,h.few⟩
theorem PsB.ok {B : Nat} {w : World} {y : Zx} (h:PsB B w y) (hB:B≤w.heap.size):BlkOk w y:=
 ⟨Z0 Zq h.insv fun z hz=>⟨(h.low z hz).1,(h.low z hz).2.1,fun q hq=>Nat.lt_of_lt_of_le ((h.low z hz).2.2 q hq) hB⟩,ZB h.tov,by have:=h.few;omega⟩
structure TuS (w0:World) (pb rb xb yb g n c b:Nat) (pp pk s:Int) (bl:List Zx) (X:Zx) (Y:PlV) (w:World):Prop where
 old:Since w0 w
 pbox:HeapIs w pb #[.int .i64 pp,.int .i64 pk,.int .i64 s,.slice (some ⟨g,0,none⟩) n c] 27
 rbox:HeapIs w rb #[.int .i64 0,.int .i64 0,.int .i64 0,.slice none 0 0] 27
 xbox:HeapIs w xb (blcells X).toArray 34
 ybox:HeapIs w yb (plcells Y).toArray 38
 row:OwnRow blcells 6 34 w0.heap.size w (.slice (some ⟨g,0,none⟩) n c) bl
 x:PsB w0.heap.size w X
 y:LowPl w0.heap.size w Y
 each:∀ (t:Nat) (z:Zx),bl[t]? = some z→t≠b→PsB w0.heap.size w z∧(∀ q,z.insv.ownBlock=some q→¬ X.insv.ownBlock=some q∧q≠yb)∧∀ q,z.fin.tov.ownBlock=some q→¬ X.fin.tov.ownBlock=some q
 apart:pb≠rb∧g≠xb∧(∀ q,X.insv.ownBlock=some q→q≠yb)
 low:w0.heap.size≤pb∧w0.heap.size≤rb∧w0.heap.size≤xb∧w0.heap.size≤yb
section
variable {w0 w w':World} {pb rb xb yb g n c b:Nat} {pp pk s:Int} {bl:List Zx} {X : Zx} {Y : PlV}
theorem TuS.keep (h:TuS w0 pb rb xb yb g n c b pp pk s bl X Y w) (t:Since w w'):TuS w0 pb rb xb yb g n c b pp pk s bl X Y w':=by
 have tt:=Zb.since (S:=fun _=>False) t
 have hl:∀ q:Nat,False→w0.heap.size≤q:=fun q e=>e.elim
 exact⟨h.old.trans t,h.pbox.keep t,h.rbox.keep t,h.xbox.keep t,h.ybox.keep t,Zv h.row t,h.x.turn tt hl (fun q _ e=>e) (fun q _ e=>e),h.y.turn tt hl,fun t' z hz hne=>⟨(h.each t' z hz hne).1.turn tt hl (fun q _ e=>e) (fun q _ e=>e),(h.each t' z hz hne).2⟩,h.apart,h.low⟩
theorem TuS.setY (h:TuS w0 pb rb xb yb g n c b pp pk s bl X Y w) (t:Zb (fun q=>q=yb) w w') {Y':PlV} (hb:HeapIs w' yb (plcells Y').toArray 38) (hy:LowPl w0.heap.size w Y'):TuS w0 pb rb xb yb g n c b pp pk s bl X Y' w':=by
 have k:=Kin.box h.ybox
 have hl:∀ q:Nat,q=yb→w0.heap.size≤q:=fun q e=>by rw[e];exact h.low.2.2.2
 exact⟨t.toSince h.old fun q hq e=>by have:=hl q e;omega,h.pbox.turn t (k.heap h.pbox (by decide)),h.rbox.turn t (k.heap h.rbox (by decide)),h.xbox.turn t (k.heap h.xbox (by decide)),hb,Zg (show w.ownsRow _ _ _ _ _ _ from h.row) t (k.apart (show w.ownsRow _ _ _ _ _ _ from h.row) (by decide)),h.x.turn t hl h.apart.2.2 (k.apart h.x.tov (by decide)),hy.turn t hl,
  fun t' z hz hne=>⟨(h.each t' z hz hne).1.turn t hl (fun q hq=>((h.each t' z hz hne).2.1 q hq).2) (k.apart (h.each t' z hz hne).1.tov (by decide)),(h.each t' z hz hne).2⟩,h.apart,h.low⟩
theorem TuS.setP (h:TuS w0 pb rb xb yb g n c b pp pk s bl X Y w) (s':Int):TuS w0 pb rb xb yb g n c b pp pk s' bl X Y (w.setCell ⟨pb,2,none⟩ (.int .i64 s')):=by
 have k:=Kin.box h.pbox
 have t:Zb (fun q=>q=pb) w (w.setCell ⟨pb,2,none⟩ (.int .i64 s')):=(Zb.refl (fun q=>q=pb) w).setCell (p:=⟨pb,2,none⟩) rfl _
 have hl:∀ q:Nat,q=pb→w0.heap.size≤q:=fun q e=>by rw[e];exact h.low.1
 exact⟨t.toSince h.old fun q hq e=>by have:=hl q e;omega,h.pbox.set 2 _,h.rbox.turn t (fun e=>h.apart.1 e.symm),h.xbox.turn t (k.heap h.xbox (by decide)),h.ybox.turn t (k.heap h.ybox (by decide)),Zg (show w.ownsRow _ _ _ _ _ _ from h.row) t (k.apart (show w.ownsRow _ _ _ _ _ _ from h.row) (by decide)),h.x.turn t hl (k.apart (show w.ownsRow _ _ _ _ _ _ from h.x.insv) (by decide)) (k.apart h.x.tov (by decide)),h.y.turn t hl,
  fun t' z hz hne=>⟨(h.each t' z hz hne).1.turn t hl (k.apart (show w.ownsRow _ _ _ _ _ _ from (h.each t' z hz hne).1.insv) (by decide)) (k.apart (h.each t' z hz hne).1.tov (by decide)),(h.each t' z hz hne).2⟩,h.apart,h.low⟩
theorem TuS.setX (h:TuS w0 pb rb xb yb g n c b pp pk s bl X Y w) (t:Zb (fun q=>q=xb) w w') {X':Zx} (hb:HeapIs w' xb (blcells X').toArray 34) (hx:PsB w0.heap.size w X') (hi:∀ q,X'.insv.ownBlock=some q→q≠yb∧∀ (t:Nat) (z:Zx),bl[t]? = some z→t≠b→¬ z.insv.ownBlock=some q) (ht:∀ q,X'.fin.tov.ownBlock=some q→∀ (t:Nat) (z:Zx),bl[t]? = some z→t≠b→¬ z.fin.tov.ownBlock=some q):TuS w0 pb rb xb yb g n c b pp pk s bl X' Y w':=by
 have k:=Kin.box h.xbox
 have hl:∀ q:Nat,q=xb→w0.heap.size≤q:=fun q e=>by rw[e];exact h.low.2.2.1
 exact⟨t.toSince h.old fun q hq e=>by have:=hl q e;omega,h.pbox.turn t (k.heap h.pbox (by decide)),h.rbox.turn t (k.heap h.rbox (by decide)),hb,h.ybox.turn t (k.heap h.ybox (by decide)),Zg (show w.ownsRow _ _ _ _ _ _ from h.row) t (fun q hq=>by cases hq;exact h.apart.2.1),hx.turn t hl (k.apart (show w.ownsRow _ _ _ _ _ _ from hx.insv) (by decide)) (k.apart hx.tov (by decide)),h.y.turn t hl,
  fun t' z hz hne=>⟨(h.each t' z hz hne).1.turn t hl (k.apart (show w.ownsRow _ _ _ _ _ _ from (h.each t' z hz hne).1.insv) (by decide)) (k.apart (h.each t' z hz hne).1.tov (by decide)),fun q hq=>⟨fun e=>(hi q e).2 t' z hz hne hq,((h.each t' z hz hne).2.1 q hq).2⟩,fun q hq e=>ht q e t' z hz hne hq⟩,⟨h.apart.1,h.apart.2.1,fun q hq=>(hi q hq).1⟩,h.low⟩
theorem TuS.setI (h:TuS w0 pb rb xb yb g n c b pp pk s bl X Y w) (t:Zb (fun q=>X.insv.ownBlock=some q) w w') {ins:List PlV} (hr:OwnRow plcells 9 38 w0.heap.size w' X.insv ins) (hi:∀ z∈ins,LowPl w0.heap.size w z) (hf:ins.length≤90000) (hv:blcells ⟨ins,X.insv,X.fin⟩=blcells X):TuS w0 pb rb xb yb g n c b pp pk s bl ⟨ins,X.insv,X.fin⟩ Y w':=by
 have k:Kin w 38 (fun q=>X.insv.ownBlock=some q):=Kin.row (show w.ownsRow _ _ _ _ _ _ from h.x.insv)
 have hl:∀ q:Nat,X.insv.ownBlock=some q→w0.heap.size≤q:=fun q e=>(World.ownsRow.lt (show w.ownsRow _ _ _ _ _ _ from h.x.insv) q e).1
 exact⟨t.toSince h.old fun q hq e=>by have:=hl q e;omega,h.pbox.turn t (k.heap h.pbox (by decide)),h.rbox.turn t (k.heap h.rbox (by decide)),by rw[hv];exact h.xbox.turn t (k.heap h.xbox (by decide)),h.ybox.turn t (fun e=>h.apart.2.2 yb e rfl),Zg (show w.ownsRow _ _ _ _ _ _ from h.row) t (k.apart (show w.ownsRow _ _ _ _ _ _ from h.row) (by decide)),⟨hr,Zg h.x.tov t (k.apart h.x.tov (by decide)),fun z hz=>(hi z hz).turn t hl,hf⟩,h.y.turn t hl,
  fun t' z hz hne=>⟨(h.each t' z hz hne).1.turn t hl (fun q hq=>((h.each t' z hz hne).2.1 q hq).1) (k.apart (h.each t' z hz hne).1.tov (by decide)),(h.each t' z hz hne).2⟩,h.apart,h.low⟩
theorem TuS.setT (h:TuS w0 pb rb xb yb g n c b pp pk s bl X Y w) (t:Zb (fun q=>X.fin.tov.ownBlock=some q) w w') {tl:List Int} (hr:w'.ownsRow w0.heap.size 3 1 X.fin.tov tl.length (tl.map (Value.int .i64))):TuS w0 pb rb xb yb g n c b pp pk s bl ⟨X.ins,X.insv,⟨X.fin.op,X.fin.a,X.fin.b,tl,X.fin.tov,X.fin.imm⟩⟩ Y w':=by
 have k:Kin w 3 (fun q=>X.fin.tov.ownBlock=some q):=Kin.row h.x.tov
 have hl:∀ q:Nat,X.fin.tov.ownBlock=some q→w0.heap.size≤q:=fun q e=>(World.ownsRow.lt h.x.tov q e).1
 exact⟨t.toSince h.old fun q hq e=>by have:=hl q e;omega,h.pbox.turn t (k.heap h.pbox (by decide)),h.rbox.turn t (k.heap h.rbox (by decide)),h.xbox.turn t (k.heap h.xbox (by decide)),h.ybox.turn t (k.heap h.ybox (by decide)),Zg (show w.ownsRow _ _ _ _ _ _ from h.row) t (k.apart (show w.ownsRow _ _ _ _ _ _ from h.row) (by decide)),⟨Zg (show w.ownsRow _ _ _ _ _ _ from h.x.insv) t (k.apart (show w.ownsRow _ _ _ _ _ _ from h.x.insv) (by decide)),hr,fun z hz=>(h.x.low z hz).turn t hl,h.x.few⟩,h.y.turn t hl,
  fun t' z hz hne=>⟨(h.each t' z hz hne).1.turn t hl (k.apart (show w.ownsRow _ _ _ _ _ _ from (h.each t' z hz hne).1.insv) (by decide)) (fun q hq=>(h.each t' z hz hne).2.2 q hq),(h.each t' z hz hne).2⟩,h.apart,h.low⟩
end
theorem own_shape1 {B : Nat} {w : World} {pp pk ps:Int} {pbl:List Zx} {v : Value} {q : Z2} {n : Nat} (h:OwnG B w ⟨pp,pk,ps,pbl,v⟩ q) (hn:pbl.length=n) (h0:0<n):∃ g c bl,q=⟨pp,pk,ps,bl,.slice (some ⟨g,0,none⟩) n c⟩∧B≤g∧g<w.heap.size∧bl.length=n:=by
 obtain⟨qp,qk,qs,bl,bv⟩:=q
 have hl:bl.length=n:=h.len.trans hn
 obtain⟨g,c,hv,h1,h2,_⟩:=JZ (show w.ownsRow B 34 6 bv n (bl.flatMap blcells) from by rw[←hl];exact h.row) hl h0
 have e1:qp=pp:=h.params
 have e2:qk=pk:=h.k
 have e3:qs=ps:=h.slots
 exact⟨g,c,bl,by rw[hv,e1,e2,e3],h1,h2,hl⟩
theorem and64_rest (n:Int) (m:Nat) (hm:0<m):∃ q:Nat,(bits .and .i64 n 65535).tmod (m:Int)=(q:Int)∧q<m:=by
 have h:=Zfd n
 have h1:0≤n % 65536:=Int.emod_nonneg _ (by omega)
 refine⟨((n % 65536) % (m:Int)).toNat,?_,?_⟩
 ·rw[h,Int.tmod_eq_emod_of_nonneg h1,Int.toNat_of_nonneg (Int.emod_nonneg _ (by omega))]
 ·have h2:=Int.emod_lt_of_pos (n % 65536) (show (0:Int)<m by omega)
  have h3:=Int.emod_nonneg (n % 65536) (show (m:Int)≠0 by omega)
  omega
theorem and64_few (n:Int):∃ q:Nat,bits .and .i64 n 65535=(q:Int)∧q<65536:=⟨(n % 65536).toNat,by rw[Zfd];omega,by omega⟩
theorem rest12 (n:Int):∃ k:Int,((n.tmod 12)+12).tmod 12=k∧0≤k∧k<12:=by
 have h1:=Int.tmod_lt_of_pos n (show (0:Int)<12 by omega)
 have h2:=Int.tmod_lt_of_pos (-n) (show (0:Int)<12 by omega)
 rw[Int.neg_tmod]at h2
 refine⟨_,rfl,?_⟩
 rw[Int.tmod_eq_emod_of_nonneg (by omega)]
 omega
structure TuX (w0:World) (pb rb xb g n c b:Nat) (pp pk s:Int) (bl:List Zx) (X:Zx) (w:World):Prop where
 old:Since w0 w
 pbox:HeapIs w pb #[.int .i64 pp,.int .i64 pk,.int .i64 s,.slice (some ⟨g,0,none⟩) n c] 27
 rbox:HeapIs w rb #[.int .i64 0,.int .i64 0,.int .i64 0,.slice none 0 0] 27
 xbox:HeapIs w xb (blcells X).toArray 34
 row:OwnRow blcells 6 34 w0.heap.size w (.slice (some ⟨g,0,none⟩) n c) bl
 x:PsB w0.heap.size w X
 each:∀ (t:Nat) (z:Zx),bl[t]? = some z→t≠b→PsB w0.heap.size w z∧(∀ q,z.insv.ownBlock=some q→¬ X.insv.ownBlock=some q)∧∀ q,z.fin.tov.ownBlock=some q→¬ X.fin.tov.ownBlock=some q
 apart:pb≠rb∧g≠xb
 low:w0.heap.size≤pb∧w0.heap.size≤rb∧w0.heap.size≤xb
section
variable {w0 w w':World} {pb rb xb g n c b:Nat} {pp pk s:Int} {bl:List Zx} {X : Zx}
theorem TuX.keep (h:TuX w0 pb rb xb g n c b pp pk s bl X w) (t:Since w w'):TuX w0 pb rb xb g n c b pp pk s bl X w':=by
 have tt:=Zb.since (S:=fun _=>False) t
 have hl:∀ q:Nat,False→w0.heap.size≤q:=fun q e=>e.elim
 exact⟨h.old.trans t,h.pbox.keep t,h.rbox.keep t,h.xbox.keep t,Zv h.row t,h.x.turn tt hl (fun q _ e=>e) (fun q _ e=>e),fun t' z hz hne=>⟨(h.each t' z hz hne).1.turn tt hl (fun q _ e=>e) (fun q _ e=>e),(h.each t' z hz hne).2⟩,h.apart,h.low⟩
theorem TuX.box (h:TuX w0 pb rb xb g n c b pp pk s bl X w) {Y : PlV} (hy:LowPl w0.heap.size w Y):TuS w0 pb rb xb w.heap.size g n c b pp pk s bl X Y (w.alloc (.cells (plcells Y).toArray 38)):=by
 have t:Since w (w.alloc (.cells (plcells Y).toArray 38)):=(Since.refl _).alloc _
 have k:=h.keep t
 exact⟨k.old,k.pbox,k.rbox,k.xbox,HeapIs.new _ _ _,k.row,k.x,⟨hy.1.keep t,hy.2⟩,fun t' z hz hne=>⟨(k.each t' z hz hne).1,fun q hq=>⟨(k.each t' z hz hne).2.1 q hq,fun e=>by have:=(World.ownsRow.lt (show w.ownsRow _ _ _ _ _ _ from (h.each t' z hz hne).1.insv) q hq).2;omega⟩,(k.each t' z hz hne).2.2⟩,⟨h.apart.1,h.apart.2,fun q hq e=>by have:=(World.ownsRow.lt (show w.ownsRow _ _ _ _ _ _ from h.x.insv) q hq).2;omega⟩,h.low.1,h.low.2.1,h.low.2.2,h.old.size⟩
theorem TuX.grow (h:TuX w0 pb rb xb g n c b pp pk s bl X w) (t:Zb (fun q=>X.insv.ownBlock=some q) w w') {ins:List PlV} {v : Value} (hr:OwnRow plcells 9 38 w0.heap.size w' v ins) (hn:Yb w X.insv v) (hi:∀ z∈ins,LowPl w0.heap.size w z) (hf:ins.length≤90000):TuX w0 pb rb xb g n c b pp pk s bl ⟨ins,v,X.fin⟩ (w'.setCell ⟨xb,0,none⟩ v):=by
 have k:Kin w 38 (fun q=>X.insv.ownBlock=some q):=Kin.row (show w.ownsRow _ _ _ _ _ _ from h.x.insv)
 have hl:∀ q:Nat,X.insv.ownBlock=some q→w0.heap.size≤q:=fun q e=>(World.ownsRow.lt (show w.ownsRow _ _ _ _ _ _ from h.x.insv) q e).1
 have hx1:=h.xbox.turn t (k.heap h.xbox (by decide))
 have t2:Zb (fun q=>q=xb) w' (w'.setCell ⟨xb,0,none⟩ v):=(Zb.refl (fun q=>q=xb) w').setCell (p:=⟨xb,0,none⟩) rfl _
 have k2:=Kin.box hx1
 have hl2:∀ q:Nat,q=xb→w0.heap.size≤q:=fun q e=>by rw[e];exact h.low.2.2
 have hp1:=h.pbox.turn t (k.heap h.pbox (by decide))
 have hq1:=h.rbox.turn t (k.heap h.rbox (by decide))
 have hb1:=Zg (show w.ownsRow _ _ _ _ _ _ from h.row) t (k.apart (show w.ownsRow _ _ _ _ _ _ from h.row) (by decide))
 have ht1:=Zg h.x.tov t (k.apart h.x.tov (by decide))
 have each1:∀ (t:Nat) (z:Zx),bl[t]? = some z→t≠b→PsB w0.heap.size w' z:=fun t' z hz hne=>(h.each t' z hz hne).1.turn t hl (fun q hq=>(h.each t' z hz hne).2.1 q hq) (k.apart (h.each t' z hz hne).1.tov (by decide))
 refine⟨t2.toSince (t.toSince h.old fun q hq e=>by have:=hl q e;omega) fun q hq e=>by have:=hl2 q e;omega,hp1.turn t2 (k2.heap hp1 (by decide)),hq1.turn t2 (k2.heap hq1 (by decide)),hx1.set 0 v,Zg hb1 t2 (fun q hq=>by cases hq;exact h.apart.2),⟨Zg (show w'.ownsRow _ _ _ _ _ _ from hr) t2 (k2.apart (show w'.ownsRow _ _ _ _ _ _ from hr) (by decide)),Zg ht1 t2 (k2.apart ht1 (by decide)),fun z hz=>((hi z hz).turn t hl).turn t2 hl2,hf⟩,
  fun t' z hz hne=>⟨(each1 t' z hz hne).turn t2 hl2 (k2.apart (show w'.ownsRow _ _ _ _ _ _ from (each1 t' z hz hne).insv) (by decide)) (k2.apart (each1 t' z hz hne).tov (by decide)),fun q hq e=>?_,(h.each t' z hz hne).2.2⟩,h.apart,h.low⟩
 rcases hn q e with e1|e1
 ·exact (h.each t' z hz hne).2.1 q hq e1
 ·have:=(World.ownsRow.lt (show w.ownsRow _ _ _ _ _ _ from (h.each t' z hz hne).1.insv) q hq).2;omega
end
theorem TuS.put {w0 w w':World} {pb rb xb yb g n c b:Nat} {pp pk s:Int} {bl:List Zx} {X : Zx} {Y : PlV} (h:TuS w0 pb rb xb yb g n c b pp pk s bl X Y w) (hb:b<bl.length) (t:Zb (fun q=>q=g) w w'):Since w0 w'∧HeapIs w' pb #[.int .i64 pp,.int .i64 pk,.int .i64 s,.slice (some ⟨g,0,none⟩) n c] 27∧HeapIs w' rb #[.int .i64 0,.int .i64 0,.int .i64 0,.slice none 0 0] 27∧∀ z∈bl.set b X,PsB w0.heap.size w' z:=by
 have k:=own_kin h.row
 have hl:∀ q:Nat,q=g→w0.heap.size≤q:=fun q e=>by rw[e];exact (World.ownsRow.lt (show w.ownsRow _ _ _ _ _ _ from h.row) g rfl).1
 have step:∀ {z : Zx},PsB w0.heap.size w z→PsB w0.heap.size w' z:=fun hz=>hz.turn t hl (k.apart (show w.ownsRow _ _ _ _ _ _ from hz.insv) (by decide)) (k.apart hz.tov (by decide))
 refine⟨t.toSince h.old fun q hq e=>by have:=hl q e;omega,h.pbox.turn t (k.heap h.pbox (by decide)),h.rbox.turn t (k.heap h.rbox (by decide)),fun z hz=>?_⟩
 obtain⟨t',ht⟩:=List.getElem?_of_mem hz
 by_cases e:t'=b
 ·subst e
  rw[List.getElem?_set_self hb]at ht
  cases ht
  exact step h.x
 ·rw[List.getElem?_set_ne (fun e2=>e e2.symm)]at ht
  exact step (h.each t' z ht e).1
theorem wrap32_b (n:Int) : -2147483648≤wrap32 n∧wrap32 n≤2147483647:=by
 unfold wrap32
 omega
theorem own_of_heap {α:Type} {f : α→List Value} {sz:Nat} (hf:∀ x,(f x).length=sz) {e : TypeId} {base g:Nat} {w : World} (l:List α) (n:Nat) (hn:l.length=n) (hm:n≤1000) (h:HeapIs w g (l.flatMap f).toArray e) (hb:base≤g):OwnRow f sz e base w (.slice (some ⟨g,0,none⟩) n n) l:=by
 subst hn
 have hl:=VG f sz hf l
 exact⟨hl,.inr ⟨g,l.length,_,rfl,hb,h,Nat.le_refl _,by unfold maxLen;omega,by simp[hl],by rw[←hl];exact List.take_of_length_le (Nat.le_refl _)⟩⟩
def NewR (cs:Array Value) (T:TypeId) (n:Nat) (base:Nat) (v:Value) (w:World):Prop:=∃ g,v=.slice (some ⟨g,0,none⟩) n n∧HeapIs w g cs T∧base≤g
theorem NewR.stable (cs:Array Value) (T:TypeId) (n base:Nat):ZH (NewR cs T n base):=fun v w w' ⟨g,h1,h2,h3⟩ s=>⟨g,h1,h2.keep s,h3⟩
theorem own_where1 {w : World} {base sz n:Nat} {e : TypeId} {v : Value} {xs:List Value} (h:w.ownsRow base e sz v n xs) (hn:0<n):∃ g cap,v=.slice (some ⟨g,0,none⟩) n cap∧g<w.heap.size∧(∀ j u,xs[j]? = some u→w.cell? ⟨g,j,none⟩=some u)∧∀ j,w.frozen? ⟨g,j,none⟩=false:=by
 obtain⟨_,⟨_,h1⟩|⟨g,cap,cur,hv,hb,hg,hc,hm,hs,htake⟩⟩:=h
 ·omega
 ·refine⟨g,cap,hv,(Array.getElem?_eq_some_iff.1 hg).1,fun j u hu=>?_,fun j=>HeapIs.frozen (show HeapIs w g cur e from hg) j⟩
  have h1:=(show HeapIs w g cur e from hg).cell j
  rw[h1,←Array.getElem?_toList]
  have h2:(List.take (n*sz) cur.toList)[j]? = some u:=by rw[htake];exact hu
  rw[List.getElem?_take]at h2
  split at h2
  ·exact h2
  ·cases h2
theorem own_src {w : World} {base:Nat} {v : Value} {L : List PlV} (h:OwnRow plcells 9 38 base w v L):Vu w v L.length (L.flatMap plcells):=XD Zq (by decide) (Z0 (p:=fun _ _=>True) Zq h fun _ _=>trivial)
theorem low_one {B : Nat} {w : World} {l : List PlV} (h:∀ z∈l,LowPl B w z):∀ u∈l.flatMap plcells,u.oneCell'=true:=by
 intro u hu
 obtain⟨z,hz,hu2⟩:=List.mem_flatMap.1 hu
 obtain⟨a1,c1,e1⟩:=Zc (h z hz).1
 simp only[plcells,List.mem_cons,List.not_mem_nil,or_false]at hu2
 rcases hu2 with rfl|rfl|rfl|rfl|rfl|rfl|rfl|rfl|rfl<;>first|rfl|(rw[e1];rfl)
theorem low_one1 {B : Nat} {w : World} {z : PlV} (h:LowPl B w z):∀ u∈plcells z,u.oneCell'=true:=fun u hu=>low_one (l:=[z]) (fun y hy=>by rw[List.mem_singleton.1 hy];exact h) u (by simpa using hu)
end Go.Proofs.YtimpddecdodddaaGreat
