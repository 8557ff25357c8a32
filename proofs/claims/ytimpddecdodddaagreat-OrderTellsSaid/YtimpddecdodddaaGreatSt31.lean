import Derived.Test.YtimpddecdodddaaGreatSt30
namespace Go.Proofs.YtimpddecdodddaaGreat
open Go.Proofs.Tryz Go.RowKit Go.Lib
theorem yX {P:Prop} (h:P:=by
 go_wp2
 go_roundw
 case rel=>exact⟨a+1,by omega,by trivial,by go_num,by trivial⟩
 case measure=>simp[intOf];omega):P:=h
theorem jY {P:Prop} (h:P:=by rw[hu,Array.getD_eq_getD_getElem?,show t[i]? = some v from hv];rfl):P:=h
theorem j6 {P:Prop} (h:P:=by exact⟨⟨this.1.1,by have:=this.1.2;omega⟩,this.2⟩):P:=h
theorem j8 {P:Prop} (h:P:=by
 apply Array.ext
 ·simp[h1]
 ·intro i g1 g2;simp[g1,hu]):P:=h
theorem zaH {P:Prop} (h:P:=by simp[exD]):P:=h
theorem Kp {P : Program} {Q : Exit→Act→World→Prop} {all:List Oper} {a0:Act} {w0:World} {id:Nat} (n pv:Nat) (keys los hg incs:List Nat) (S T:Nat→Prop) (hp:∀ q,T q→S q) (Ph:Nat→World→Prop) (hm:P.follows .mixedOrders=true)
  (hd:ZU (all.take n)=true) (hb:ZW all 0=true) (hf:Xc all n=true) (hn:n≤all.length) (hk:XU all n keys los hg incs=true) (Fs:List (Value→World→Prop)) (hF:AllBut S pv Fs 0) (hq:WZ T Fs) (hj:Ph 0 w0.drew)
  (hs:VJ pv (Zb S) (Zb T) Ph P all.toArray (all.take n) Q (Zj Fs) a0 w0 (all.take n) los hg incs 0)
  (he:∀ vs w,Zb S w0 w→Ph keys.length w→Zi (Zj Fs) vs w 0 n→wpList P all.toArray Q (all.drop n) (putAll (all.take n) 0 vs a0) w):(Code.region id all.toArray true).wp P Q a0 w0:=by
 refine wp_region_any hm ?_;have hc:(all.take n).length=n:=by rw[List.length_take];omega
 have ha:all.take n++all.drop n=all:=List.take_append_drop n all;have e:=Y1 (Yj (all.take n) a0) a0 (all.take n) 0 (fun i o d hi hh=>by simp only[Yj,Nat.zero_add,hi,Option.bind_some,hh]);have h:=Kc (l:=all.take n) (t0:=all.drop n) (P:=P) (Q:=Q) (F:=Zj Fs) (a0:=a0) (w0:=w0) (pv:=pv) (R:=Zb S) (R2:=Zb T) (by rw[ha,hc];exact hk) (fun _ _ _=>Zb.trans) (fun i v w w' hi hv ht=>Ki Fs 0 hF i v w w' zaK hv ht) (Va Fs hq) (fun a b h=>h.mono fun q _ e=>hp q e) hd (by rw[ha];exact hb) (by rw[ha,hc];exact hf) (by rw[ha];exact hs) (by rw[ha,hc];exact he)
  all.length (Array.replicate all.length false) (Yj (all.take n) a0) { w0 with drawn:=w0.drawn+1 } (by rw[ha];simp) kV (Zb.since (Since.refl w0).drew)
  (by
   have:Z1 keys (Array.replicate all.length false)=0:=by
    unfold Z1;rw[List.countP_eq_zero];intro k _;simp[Array.getD_eq_getD_getElem?,Array.getElem?_replicate];split<;>rfl
   rw[this];exact hj)
  (fun i o ho hl=>by
   have hi:i<all.length:=by rw[←ha];exact (List.getElem?_eq_some_iff.1 ho).1
   simp[Array.getD_eq_getD_getElem?,hi]at hl)
  (fun i hi hl=>by
   have:i<all.length:=zaK
   simp[Array.getD_eq_getD_getElem?,this]at hl)
  (fun i _ hi=>by
   rw[ha]at hi;simp[Array.getD_eq_getD_getElem?,hi])
 rw[e,ha]at h;simpa using h
set_option linter.unusedVariables false
set_option maxHeartbeats 8000000
set_option maxRecDepth 1000000
def bxR (r:Nat):Bx:=⟨r,#[.int .i64 0,.slice none 0 0],109⟩
def bxP (pb:Nat) (ph:List Int):Bx:=⟨pb,(ph.map (Value.int .i64)).toArray,3⟩
def bxD (db:Nat) (dn:List Bool):Bx:=⟨db,(dn.map Value.bool).toArray,4⟩
def exP (r pb:Nat) (ph:List Int):List Bx:=[bxR r,bxP pb ph]
def exD (r pb db:Nat) (ph:List Int) (dn:List Bool):List Bx:=[bxR r,bxP pb ph,bxD db dn]
section
variable {w0 w w':World} {ex ex':List Bx} {mb bb tb r pb db:Nat} {sv:Value} {l : List Int} {n : Nat} {rows:List (Value × List Int)} {m m':Zm} {ph:List Int} {dn:List Bool}
theorem MSt.addP (h:MSt w0 [bxR r] mb bb tb sv l n rows m w) (s:Since w w') (hb:HeapIs w' pb (ph.map (Value.int .i64)).toArray 3) (ha:w.heap.size≤pb):MSt w0 (exP r pb ph) mb bb tb sv l n rows m w':=
 h.beside (T:=fun _=>False) (Zb.since s) (fun q _ e=>e.elim) fun x hx=>by
  rcases List.mem_cons.1 hx with rfl|hx
  ·exact⟨(h.boxes (bxR r) (List.mem_singleton.2 rfl)).1.keep s,.inl ⟨bxR r,List.mem_singleton.2 rfl,rfl⟩⟩
  ·rw[List.mem_singleton.1 hx];exact⟨hb,.inr ha⟩
theorem MSt.phAt (h:MSt w0 (exP r pb ph) mb bb tb sv l n rows m w):HeapIs w pb (ph.map (Value.int .i64)).toArray 3:=(h.boxes (bxP pb ph) (by simp[exP])).1
theorem MSt.resAt (h:MSt w0 (exP r pb ph) mb bb tb sv l n rows m w):HeapIs w r #[.int .i64 0,.slice none 0 0] 109:=(h.boxes (bxR r) (by simp[exP])).1
theorem MSt.setP (h:MSt w0 (exP r pb ph) mb bb tb sv l n rows m w) (j:Nat) (v:Int):MSt w0 (exP r pb (ph.set j v)) mb bb tb sv l n rows m (w.setCell ⟨pb,j,none⟩ (.int .i64 v)):=by
 have t:Zb (fun q=>q=pb) w (w.setCell ⟨pb,j,none⟩ (.int .i64 v)):=(Zb.refl (fun q=>q=pb) w).setCell (p:=⟨pb,j,none⟩) rfl _;have ha:r≠pb:=Yq h.resAt h.phAt zaJ;refine h.beside t (fun q _ e=>⟨bxP pb ph,by simp[exP],e.symm⟩) fun x hx=>?_
 rcases List.mem_cons.1 hx with rfl|hx
 ·exact⟨h.resAt.turn t ha,.inl ⟨bxR r,by simp[exP],rfl⟩⟩
 ·rw[List.mem_singleton.1 hx];refine⟨?_,.inl ⟨bxP pb ph,by simp[exP],rfl⟩⟩;have h1:=h.phAt.set j (.int .i64 v);show HeapIs _ pb ((ph.set j v).map (Value.int .i64)).toArray 3
  rw[List.map_set];simpa using h1
theorem MSt.addD (h:MSt w0 (exP r pb ph) mb bb tb sv l n rows m w) (s:Since w w') (hb:HeapIs w' db (dn.map Value.bool).toArray 4) (ha:w.heap.size≤db):MSt w0 (exD r pb db ph dn) mb bb tb sv l n rows m w':=
 h.beside (T:=fun _=>False) (Zb.since s) (fun q _ e=>e.elim) fun x hx=>by
  rcases List.mem_cons.1 hx with rfl|hx
  ·exact⟨h.resAt.keep s,.inl ⟨bxR r,by simp[exP],rfl⟩⟩
  ·rcases List.mem_cons.1 hx with rfl|hx
   ·exact⟨h.phAt.keep s,.inl ⟨bxP pb ph,by simp[exP],rfl⟩⟩
   ·rw[List.mem_singleton.1 hx];exact⟨hb,.inr ha⟩
theorem MSt.dnAt (h:MSt w0 (exD r pb db ph dn) mb bb tb sv l n rows m w):HeapIs w db (dn.map Value.bool).toArray 4:=(h.boxes (bxD db dn) zaH).1
structure PhI (ph:List Int) (n b i:Nat) (m:Zm):Prop where
 len:ph.length=n
 few:∀ v∈ph,0≤v∧v≤3
 zero:ph[0]? = some 0
 phi:∀ k∈m.bks,∀ p∈k.phis,(0≤p.dst∧p.dst<m.next)∧p.ins=[]
 cnt:∀ (j:Nat) (k:Zt) (v:Int),j≠b→m.bks[j]? = some k→ph[j]? = some v→(k.phis.length:Int)=v
 cur:∀ k,m.bks[b]? = some k→k.phis.length=i
theorem PhI.at {n b i:Nat} (h:PhI ph n b i m) {j : Nat} (hj:j<n):∃ v,ph[j]? = some v∧0≤v∧v≤3:=by
 obtain⟨v,hv⟩:∃ v,ph[j]? = some v:=⟨_,List.getElem?_eq_getElem (by rw[h.len];exact hj)⟩
 exact⟨_,hv,h.few _ (List.mem_of_getElem? hv)⟩
theorem PhI.enter {n b:Nat} {v : Int} (h:PhI ph n n 0 m) (hm:m'.bks=m.bks) (hn:m.next≤m'.next) (hb:b<n) (ha:1≤b) (h0:ph[b]? = some 0) (hv:0≤v∧v≤3):PhI (ph.set b v) n b 0 m':=by
 refine⟨by rw[List.length_set];exact h.len,fun y hy=>?_,?_,fun k hk p hp=>?_,fun j k y hj hk hy=>?_,fun k hk=>?_⟩
 ·rcases List.mem_or_eq_of_mem_set hy with h1|rfl
  ·exact h.few y h1
  ·exact hv
 ·rw[List.getElem?_set_ne zaK];exact h.zero
 ·rw[hm]at hk;have:=h.phi k hk p hp;exact j6
 ·rw[hm]at hk;rw[List.getElem?_set_ne (fun e=>hj e.symm)]at hy;exact h.cnt j k y (by have:=(List.getElem?_eq_some_iff.1 hy).1;rw[h.len]at this;omega) hk hy
 ·rw[hm]at hk;have:=h.cnt b k 0 zaK hk h0;omega
theorem PhI.enter0 {n b:Nat} (h:PhI ph n n 0 m) (hm:m'.bks=m.bks) (hn:m.next≤m'.next) (hb:b<n) (ha:1≤b) (h0:ph[b]? = some 0):PhI ph n b 0 m':=by
 have h1:=h.enter hm hn hb ha h0 (v:=0) zaK;have e:ph.set b 0=ph:=by
  apply List.ext_getElem?
  intro t;rw[List.getElem?_set];split
  ·rename_i e;subst e
   rw[h0,if_pos (by rw[h.len];exact hb)]
  ·rfl
 rwa [e]at h1
theorem PhI.leave {n b i:Nat} (h:PhI ph n b i m) (hl:m.bks.length=n) (hi:ph[b]? = some (i:Int)):PhI ph n n 0 m:=
 ⟨h.len,h.few,h.zero,h.phi,fun j k v _ hk hv=>by
  by_cases e:j=b
  ·subst e
   rw[hi]at hv
   rw[h.cur k hk]
   exact Option.some.inj hv
  ·exact h.cnt j k v e hk hv,fun k hk=>by
  have:=(List.getElem?_eq_some_iff.1 hk).1
  omega⟩
theorem PhI.add {n b i:Nat} {k k':Zt} {p : YW} (h:PhI ph n b i m) (hb:m.bks[b]? = some k) (hk:k'.phis=k.phis++[p]) (hp:(0≤p.dst∧p.dst<m.next+1)∧p.ins=[]) {m2:Zm} (hm:m2.bks=m.bks.set b k') (hn:m2.next=m.next+1):PhI ph n b (i+1) m2:=by
 refine⟨h.len,h.few,h.zero,fun c hc q hq=>?_,fun j c v hj hc hv=>?_,fun c hc=>?_⟩
 ·rw[hm]at hc;rw[hn];have old:∀ c∈m.bks,∀ q∈c.phis,(0≤q.dst∧q.dst<m.next+1)∧q.ins=[]:=fun c hc q hq=>by
   have:=h.phi c hc q hq;exact j6
  rcases Yk hc with rfl|⟨j,_,hj⟩
  ·rw[hk]at hq;rcases List.mem_append.1 hq with hq|hq
   ·exact old k (List.mem_of_getElem? hb) q hq
   ·rw[List.mem_singleton.1 hq];exact hp
  ·exact old c (List.mem_of_getElem? hj) q hq
 ·rw[hm]at hc;rcases ZJ hc with ⟨rfl,_⟩|⟨_,h2⟩
  ·exact absurd rfl hj
  ·exact h.cnt j c v hj h2 hv
 ·rw[hm]at hc;rcases ZJ hc with ⟨_,rfl⟩|⟨hj,_⟩
  ·rw[hk,List.length_append,h.cur k hb];rfl
  ·exact absurd rfl hj
structure Hd (x:Int) (a k:Nat) (m:Zm):Prop where
 at_:m.at_≤a
 next:m.next≤x+k
 params:m.params=x
 live:m.live=[]
 ins:∀ b∈m.bks,b.ins=[]
theorem Hd.step {x : Int} {a k a' k':Nat} (h:Hd x a k m) (hl:m'.live=m.live) (hp:m'.params=m.params) (ha:m'.at_≤m.at_+a') (hn:m'.next≤m.next+k') (hi:m'.bks=m.bks):Hd x (a+a') (k+k') m':=
 ⟨by have:=h.at_;omega,by have:=h.next;omega,hp.trans h.params,hl.trans h.live,by rw[hi];exact h.ins⟩
theorem Hd.more {x : Int} {a k a' k':Nat} (h:Hd x a k m) (ha:a≤a') (hk:k≤k'):Hd x a' k' m:=⟨by have:=h.at_;omega,by have:=h.next;omega,h.params,h.live,h.ins⟩
def Wa (S:Nat→Prop) (d:Int) (v:Value) (w:World):Prop:=∃ q,v=.slice (some ⟨q,0,none⟩) 1 1∧HeapIs w q #[.int .i64 d,.slice none 0 0] 138∧¬ S q
theorem Wa.stable (S:Nat→Prop) (d:Int):ZH (Wa S d):=fun v w w' ⟨q,h1,h2,h3⟩ s=>⟨q,h1,h2.keep s,h3⟩
theorem Wa.stableT (S:Nat→Prop) (d:Int):Yw S (Wa S d):=fun v w w' ⟨q,h1,h2,h3⟩ t=>⟨q,h1,h2.turn t h3,h3⟩
theorem Wa.stableT2 {mb:Nat} {A : Nat→Prop} (d:Int):Yw (fun q=>q=mb) (Wa (fun q=>q=mb∨A q) d):=fun v w w' ⟨q,h1,h2,h3⟩ t=>⟨q,h1,h2.turn t fun e=>h3 (.inl e),h3⟩
theorem ZbU {S : Nat→Prop} {w : World} (d:Int) (h:¬ S w.heap.size):Wa S d (.slice (some ⟨w.heap.size,0,none⟩) 1 1) (w.alloc (.cells #[.int .i64 d,.slice none 0 0] 138)):=⟨_,rfl,HeapIs.new _ _ _,h⟩
structure Zfn (C:Nat→Prop) (mb:Nat) (bv sv:Value) (l:List Int) (w0:World) (m:Zm) (v0:Value) (xs:List YW) (wa:World) (v:Value) (w:World):Prop where
 ok:MkOk C mb bv sv l { m with next:=m.next+1 } wa
 mv:Mv mb bv w0 m wa { m with next:=m.next+1 } 0 1 0
 turn:Zb (fun q=>v0.ownBlock=some q∨q=mb) wa w
 new:Yb wa v0 v
 own:OwnRow fpcells 2 138 0 w v xs
 ne:∀ q,v.ownBlock=some q→¬ q=mb
def Ql (C:Nat→Prop) (mb:Nat) (bv sv:Value) (l:List Int) (w0:World) (m:Zm) (v0:Value) (xs:List YW) (v:Value) (w:World):Prop:=∃ wa,Zfn C mb bv sv l w0 m v0 xs wa v w
theorem Ql.stableT (C:Nat→Prop) (mb:Nat) (bv sv:Value) (l:List Int) (w0:World) (m:Zm) (v0:Value) (xs:List YW):Yw (fun q=>q=mb) (Ql C mb bv sv l w0 m v0 xs):=fun v w w' ⟨wa,h⟩ t=>⟨wa,h.ok,h.mv,h.turn.trans (t.mono fun q _ e=>.inr e),h.new,Zg h.own t h.ne,h.ne⟩
theorem Zao {A : Nat→Prop} {wa w:World} {mb:Nat} {cs:Array Value} {T : TypeId} (t:Zb (fun q=>A q∨q=mb) wa w) (h1:HeapIs wa mb cs T) (h2:HeapIs w mb cs T):Zb A wa w:=
 ⟨t.os,t.tape,t.output,t.size,fun k hk hn=>by
  by_cases e:k=mb
  ·subst e;exact (show w.heap[k]? = _ from h2).trans (show wa.heap[k]? = _ from h1).symm
  ·exact t.block k hk fun h=>h.elim hn e⟩
structure Za2 (C:Nat→Prop) (mb:Nat) (bv sv:Value) (l:List Int) (w0:World) (m:Zm) (bb:Nat) (p:Nat) (w:World):Prop where
 one:p=0→MkOk C mb bv sv l m w∧Since w0 w
 two:p=1→MkOk C mb bv sv l { m with next:=m.next+1 } w∧Mv mb bv w0 m w { m with next:=m.next+1 } 0 1 0
 three:p≠0→HeapIs w mb #[sv,.int .i64 m.at_,.int .i64 m.params,bv,.int .i64 (m.next+1),m.livev] 111
 c3:w.cell? ⟨mb,3,none⟩=some bv
 lmb:mb<w.heap.size
 blk:HeapIs w bb (m.bks.flatMap fbcells).toArray 177
 lt:∀ q,ZE C mb bv m q→q<w.heap.size
theorem Za2.keep {C : Nat→Prop} {bv:Value} {w1 w2:World} {p : Nat} (h:Za2 C mb bv sv l w0 m bb p w1) (s:Since w1 w2):Za2 C mb bv sv l w0 m bb p w2:=
 ⟨fun e=>⟨(h.one e).1.keep s,(h.one e).2.trans s⟩,fun e=>⟨(h.two e).1.keep s,(h.two e).2.keep s⟩,fun e=>(h.three e).keep s,(s.cell (p:=⟨mb,3,none⟩) h.lmb).trans h.c3,Nat.lt_of_lt_of_le h.lmb s.size,h.blk.keep s,fun q hq=>Nat.lt_of_lt_of_le (h.lt q hq) s.size⟩
end
def dnL (n d:Nat):List Bool:=(List.range n).map fun j=>decide (j<d)
theorem Qu (n d:Nat):(dnL n d).length=n:=by simp[dnL]
theorem Ve {n d j:Nat} (h:j<n):(dnL n d)[j]? = some (decide (j<d)):=by simp[dnL,h]
theorem Zd1 (n:Nat):List.replicate n false=dnL n 0:=by
 apply List.ext_getElem?
 intro t;rw[List.getElem?_replicate];by_cases h:t<n
 ·rw[if_pos h,Ve h];simp
 ·rw[if_neg h];simp[dnL,h]
theorem ZeC (n d:Nat):(dnL n d).set d true=dnL n (d+1):=by
 apply List.ext_getElem?
 intro t;rw[List.getElem?_set];by_cases h:t<n
 ·rw[Ve h];by_cases e:d=t
  ·subst e;rw[if_pos rfl,Qu,if_pos h,Ve h];simp
  ·rw[if_neg e,Ve h];congr 1
   rw[decide_eq_decide];omega
 ·by_cases e:d=t
  ·subst e;rw[if_pos rfl,Qu,if_neg h];simp[dnL,h]
  ·rw[if_neg e];simp[dnL,h]
def Zcl (bks:List Zt) (n:Nat) (a:Int) (out:List Bool):Prop:=
 (a≠0→out[0]? = some true)∧∀ (c:Nat) (b:Zt) (x:Int),out[c]? = some true→bks[c]? = some b→x∈b.term.to→0≤x→x<(n:Int)→x≠a→out[x.toNat]? = some true
theorem JY {bks:List Zt} {n a:Nat} {out:List Bool} {rows:List (Value × List Int)} (h:Zcl bks n a out) (ht:Yn rows n bks) (hc:XK rows n) (hl:bks.length=n):∀ (f c:Nat),c<f→c<a→c<n→out[c]? = some true
 | 0,c,hf,_,_=>by omega
 | f+1,c,hf,hca,hcn=>by
  by_cases h0:c=0
  ·subst h0;exact h.1 zaK
  ·obtain⟨p,r,hp,hr,hm⟩:=hc c zaK hcn
   obtain⟨b,hb⟩:∃ b,bks[p]? = some b:=⟨_,List.getElem?_eq_getElem zaK⟩
   have h1:=h.2 p b c (JY h ht hc hl f p zaK zaK zaK) hb (by rw[ht p b r zaK hb hr];exact hm) zaK zaK zaK
   simpa using h1
def awv (n:Nat) (p:Nat × List Bool):Value:=.slice (some ⟨p.1,0,none⟩) n n
def awc (n:Nat) (p:Nat × List Bool):List Value:=[awv n p]
structure X5 (wo:World) (bks:List Zt) (n:Nat) (v:Value) (aw:List (Nat × List Bool)) (wr:World):Prop where
 own:OwnRow (awc n) 1 144 wo.heap.size wr v aw
 each:∀ p∈aw,HeapIs wr p.1 (p.2.map Value.bool).toArray 4∧wo.heap.size≤p.1∧p.2.length=n
 cl:∀ (a:Nat) (p:Nat × List Bool),aw[a]? = some p→Zcl bks n a p.2
 old:Since wo wr
section
variable {wo wr w w' w6:World} {bks:List Zt} {n : Nat} {v v':Value} {aw:List (Nat × List Bool)} {p : Nat × List Bool}
theorem VV {α:Type} {f : α→List Value} {sz:Nat} {e : TypeId} (w:World) (base:Nat) (hb:base≤w.heap.size):OwnRow f sz e base (w.alloc (.cells #[] e)) (.slice (some ⟨w.heap.size,0,none⟩) 0 0) []:=
 ⟨by simp,.inr ⟨w.heap.size,0,#[],rfl,hb,ZG _ _,by simp,by unfold maxLen;omega,by simp,by simp⟩⟩
theorem X5.start (wo:World) (bks:List Zt) (n:Nat):X5 wo bks n (.slice (some ⟨wo.heap.size,0,none⟩) 0 0) [] (wo.alloc (.cells #[] 144)):=
 ⟨VV wo _ (Nat.le_refl _),fun p hp=>(by cases hp),fun a p hp=>(by cases hp),(Since.refl _).alloc _⟩
theorem X5.low (h:X5 wo bks n v aw wr) {q : Nat} (hq:v.ownBlock=some q):wo.heap.size≤q:=(World.ownsRow.lt h.own q hq).1
theorem X5.add (h:X5 wo bks n v aw wr) (s:Since wr w) (hp:HeapIs w p.1 (p.2.map Value.bool).toArray 4∧wo.heap.size≤p.1∧p.2.length=n) (hc:Zcl bks n aw.length p.2)
  (hd:OwnRow (awc n) 1 144 wo.heap.size w6 v' (aw++[p])) (t6:Zb (fun q=>v.ownBlock=some q) w w6):X5 wo bks n v' (aw++[p]) w6:=by
 have hb:∀ {q : Nat} {cs:Array Value},HeapIs w q cs 4→¬ v.ownBlock=some q:=fun hq=>Zn (OwnRow.keep h.own s) hq zaJ
 refine⟨hd,fun x hx=>?_,fun a x hx=>?_,t6.toSince (h.old.trans s) fun k hk e=>by have:=h.low e;omega⟩
 ·rcases List.mem_append.1 hx with hx|hx
  ·obtain⟨h1,h2,h3⟩:=h.each x hx;exact⟨(h1.keep s).turn t6 (hb (h1.keep s)),h2,h3⟩
  ·rw[List.mem_singleton.1 hx];exact⟨hp.1.turn t6 (hb hp.1),hp.2⟩
 ·rw[List.getElem?_append]at hx;split at hx
  ·exact h.cl a x hx
  ·rename_i hge
   have ha:a-aw.length=0:=by
    rcases Nat.eq_zero_or_pos (a-aw.length) with h1|h1
    ·exact h1
    ·rw[List.getElem?_eq_none zaE]at hx;cases hx
   rw[ha]at hx;have hx:p=x:=by simpa using hx
   obtain rfl:a=aw.length:=zaK
   rw[←hx];exact hc
def awEx (vb:Nat) (cur:Array Value) (aw:List (Nat × List Bool)):List Bx:=⟨vb,cur,144⟩::aw.map fun p=>⟨p.1,(p.2.map Value.bool).toArray,4⟩
theorem X5.open (h:X5 wo bks n v aw wr) (hl:0<aw.length):∃ vb cap cur,v=.slice (some ⟨vb,0,none⟩) aw.length cap∧HeapIs wr vb cur 144∧wo.heap.size≤vb∧(∀ (a:Nat) (p:Nat × List Bool),aw[a]? = some p→cur[a]? = some (awv n p)) ∧
  ∀ x∈awEx vb cur aw,HeapIs wr x.q x.cs x.ty∧wo.heap.size≤x.q:=by
 have ho:=h.own;obtain⟨hd,⟨hv,hn⟩|⟨g,cap,cur,hv,hb,hg,he,hh,hf,hc⟩⟩:=ho
 ·omega
 ·refine⟨g,cap,cur,hv,hg,hb,fun a p hp=>?_,fun x hx=>?_⟩
  ·have h1:=congrArg (fun l=>l[a]?) hc;have h2:=Wk (awc n) 1 (fun _=>rfl) aw a 0 p hp zaJ;have ha:=(List.getElem?_eq_some_iff.1 hp).1;rw[Nat.mul_one,Nat.add_zero]at h2;simp only[h2,List.getElem?_take,Nat.mul_one,if_pos ha]at h1;rw[←Array.getElem?_toList,h1];rfl
  ·rcases List.mem_cons.1 hx with rfl|hx
   ·exact⟨hg,hb⟩
   ·obtain⟨p,hp,rfl⟩:=List.mem_map.1 hx;exact⟨(h.each p hp).1,(h.each p hp).2.1⟩
end
structure Lp (x:Int) (ph:List Int) (n d:Nat) (m:Zm):Prop where
 phs:PhI ph n n 0 m
 at_:m.at_≤120+200*d
 next:m.next≤x+27+40*d
 params:m.params=x
 total:m.total≤50*d
 live:m.live.length≤10000
 terms:∀ (j:Nat) (k:Zt),j<d→m.bks[j]? = some k→Y7 m.next n k.term
section
variable {x : Int} {ph:List Int} {n d:Nat} {m m':Zm}
theorem ZbA (h:∀ b∈m.bks,b.ins=[]):m.total=0:=by
 unfold Zm.total;have:∀ bks:List Zt,(∀ b∈bks,b.ins=[])→(bks.map fun b=>b.ins.length).sum=0:=fun bks=>by
  induction bks with
  | nil=>intro _;rfl
  | cons b r ih =>
   intro hb;rw[List.map_cons,List.sum_cons,hb b List.mem_cons_self,ih fun y hy=>hb y (List.mem_cons_of_mem _ hy)];rfl
 exact this _ h
theorem Lp.start {a k:Nat} (hp:PhI ph n n 0 m) (h:Hd x a k m) (ha:a≤120) (hk:k≤27):Lp x ph n 0 m:=
 ⟨hp,by have:=h.at_;omega,by have:=h.next;omega,h.params,by rw[ZbA h.ins];omega,by rw[h.live];decide,fun j _ hj=>by omega⟩
theorem Jn {b : Zt} (hb:b∈m.bks):b.ins.length≤m.total:=Xf (List.mem_map.2 ⟨b,hb,rfl⟩)
end
def V2:List Nat→Code→Code
 | [],c=>c
 | 0::r,.seq a _=>V2 r a
 | _::r,.seq _ b=>V2 r b
 | _::r,.block _ c=>V2 r c
 | _::r,.loop c=>V2 r c
 | 0::r,.cond _ a _=>V2 r a
 | _::r,.cond _ _ b=>V2 r b
 | _::_,c=>c
noncomputable def mkCode (p:List Nat):Code:=V2 p (Tryz.f81.body.getD .skip)
def Sl:List (Nat × Value)→Act→Prop
 | [],_=>True
 | p::r,a=>a.tmps[p.1]? = some p.2∧Sl r a
def Fr (l:List (Nat × Value)) (a:Act):Prop:=a.tmps.size=415∧a.defers=[]∧Sl l a
theorem ZA {l : List (Nat × Value)} {a : Act} (h1:a.tmps.size=415) (h2:a.defers=[]) (h3:Sl l a):Fr l a:=⟨h1,h2,h3⟩
theorem Zf (a:Act):Sl [] a:=trivial
theorem Za {i : Nat} {v : Value} {l : List (Nat × Value)} {a : Act} (h:a.tmps[i]? = some v) (t:Sl l a):Sl ((i,v)::l) a:=⟨h,t⟩
theorem zf0 {P:Prop} (h:P:=by repeat (first | exact Zf _ | refine Za rfl ?_)):P:=h
theorem Zc4 (u:Nat→Value):(u 0::u 1::u 2::u 3::u 4::u 5::u 6::u 7::u 8::u 9::u 10::u 11::u 12::u 13::u 14::u 15::u 16::u 17::u 18::u 19::u 20::u 21::u 22::u 23::u 24::u 25::u 26::u 27::u 28::u 29::u 30::u 31::u 32::u 33::u 34::u 35::u 36::u 37::u 38::u 39::u 40::u 41::u 42::u 43::u 44::u 45::u 46::u 47::u 48::u 49::u 50::u 51::u 52::u 53::u 54::u 55::u 56::u 57::u 58::u 59::u 60::u 61::u 62::u 63::u 64::u 65::u 66::u 67::u 68::u 69::u 70::u 71::u 72::u 73::u 74::u 75::u 76::u 77::u 78::u 79::u 80::u 81::u 82::u 83::u 84::u 85::u 86::u 87::u 88::u 89::u 90::u 91::u 92::u 93::u 94::u 95::u 96::u 97::u 98::u 99::u 100::u 101::u 102::u 103::u 104::u 105::u 106::u 107::u 108::u 109::u 110::u 111::u 112::u 113::u 114::u 115::u 116::u 117::u 118::u 119::u 120::u 121::u 122::u 123::u 124::u 125::u 126::u 127::u 128::u 129::u 130::u 131::u 132::u 133::u 134::u 135::u 136::u 137::u 138::u 139::u 140::u 141::u 142::u 143::u 144::u 145::u 146::u 147::u 148::u 149::u 150::u 151::u 152::u 153::u 154::u 155::u 156::u 157::u 158::u 159::u 160::u 161::u 162::u 163::u 164::u 165::u 166::u 167::u 168::u 169::u 170::u 171::u 172::u 173::u 174::u 175::u 176::u 177::u 178::u 179::u 180::u 181::u 182::u 183::u 184::u 185::u 186::u 187::u 188::u 189::u 190::u 191::u 192::u 193::u 194::u 195::u 196::u 197::u 198::u 199::u 200::u 201::u 202::u 203::u 204::u 205::u 206::u 207::u 208::u 209::u 210::u 211::u 212::u 213::u 214::u 215::u 216::u 217::u 218::u 219::u 220::u 221::u 222::u 223::u 224::u 225::u 226::u 227::u 228::u 229::u 230::u 231::u 232::u 233::u 234::u 235::u 236::u 237::u 238::u 239::u 240::u 241::u 242::u 243::u 244::u 245::u 246::u 247::u 248::u 249::u 250::u 251::u 252::u 253::u 254::u 255::u 256::u 257::u 258::u 259::u 260::u 261::u 262::u 263::u 264::u 265::u 266::u 267::u 268::u 269::u 270::u 271::u 272::u 273::u 274::u 275::u 276::u 277::u 278::u 279::u 280::u 281::u 282::u 283::u 284::u 285::u 286::u 287::u 288::u 289::u 290::u 291::u 292::u 293::u 294::u 295::u 296::u 297::u 298::u 299::u 300::u 301::u 302::u 303::u 304::u 305::u 306::u 307::u 308::u 309::u 310::u 311::u 312::u 313::u 314::u 315::u 316::u 317::u 318::u 319::u 320::u 321::u 322::u 323::u 324::u 325::u 326::u 327::u 328::u 329::u 330::u 331::u 332::u 333::u 334::u 335::u 336::u 337::u 338::u 339::u 340::u 341::u 342::u 343::u 344::u 345::u 346::u 347::u 348::u 349::u 350::u 351::u 352::u 353::u 354::u 355::u 356::u 357::u 358::u 359::u 360::u 361::u 362::u 363::u 364::u 365::u 366::u 367::u 368::u 369::u 370::u 371::u 372::u 373::u 374::u 375::u 376::u 377::u 378::u 379::u 380::u 381::u 382::u 383::u 384::u 385::u 386::u 387::u 388::u 389::u 390::u 391::u 392::u 393::u 394::u 395::u 396::u 397::u 398::u 399::u 400::u 401::u 402::u 403::u 404::u 405::u 406::u 407::u 408::u 409::u 410::u 411::u 412::u 413::u 414::[]:List Value).toArray=((List.range 415).map u).toArray:=by kernel_rfl
theorem Zs {l : List (Nat × Value)} {a : Act} (h:Fr l a):∃ u:Nat→Value,a=⟨(u 0::u 1::u 2::u 3::u 4::u 5::u 6::u 7::u 8::u 9::u 10::u 11::u 12::u 13::u 14::u 15::u 16::u 17::u 18::u 19::u 20::u 21::u 22::u 23::u 24::u 25::u 26::u 27::u 28::u 29::u 30::u 31::u 32::u 33::u 34::u 35::u 36::u 37::u 38::u 39::u 40::u 41::u 42::u 43::u 44::u 45::u 46::u 47::u 48::u 49::u 50::u 51::u 52::u 53::u 54::u 55::u 56::u 57::u 58::u 59::u 60::u 61::u 62::u 63::u 64::u 65::u 66::u 67::u 68::u 69::u 70::u 71::u 72::u 73::u 74::u 75::u 76::u 77::u 78::u 79::u 80::u 81::u 82::u 83::u 84::u 85::u 86::u 87::u 88::u 89::u 90::u 91::u 92::u 93::u 94::u 95::u 96::u 97::u 98::u 99::u 100::u 101::u 102::u 103::u 104::u 105::u 106::u 107::u 108::u 109::u 110::u 111::u 112::u 113::u 114::u 115::u 116::u 117::u 118::u 119::u 120::u 121::u 122::u 123::u 124::u 125::u 126::u 127::u 128::u 129::u 130::u 131::u 132::u 133::u 134::u 135::u 136::u 137::u 138::u 139::u 140::u 141::u 142::u 143::u 144::u 145::u 146::u 147::u 148::u 149::u 150::u 151::u 152::u 153::u 154::u 155::u 156::u 157::u 158::u 159::u 160::u 161::u 162::u 163::u 164::u 165::u 166::u 167::u 168::u 169::u 170::u 171::u 172::u 173::u 174::u 175::u 176::u 177::u 178::u 179::u 180::u 181::u 182::u 183::u 184::u 185::u 186::u 187::u 188::u 189::u 190::u 191::u 192::u 193::u 194::u 195::u 196::u 197::u 198::u 199::u 200::u 201::u 202::u 203::u 204::u 205::u 206::u 207::u 208::u 209::u 210::u 211::u 212::u 213::u 214::u 215::u 216::u 217::u 218::u 219::u 220::u 221::u 222::u 223::u 224::u 225::u 226::u 227::u 228::u 229::u 230::u 231::u 232::u 233::u 234::u 235::u 236::u 237::u 238::u 239::u 240::u 241::u 242::u 243::u 244::u 245::u 246::u 247::u 248::u 249::u 250::u 251::u 252::u 253::u 254::u 255::u 256::u 257::u 258::u 259::u 260::u 261::u 262::u 263::u 264::u 265::u 266::u 267::u 268::u 269::u 270::u 271::u 272::u 273::u 274::u 275::u 276::u 277::u 278::u 279::u 280::u 281::u 282::u 283::u 284::u 285::u 286::u 287::u 288::u 289::u 290::u 291::u 292::u 293::u 294::u 295::u 296::u 297::u 298::u 299::u 300::u 301::u 302::u 303::u 304::u 305::u 306::u 307::u 308::u 309::u 310::u 311::u 312::u 313::u 314::u 315::u 316::u 317::u 318::u 319::u 320::u 321::u 322::u 323::u 324::u 325::u 326::u 327::u 328::u 329::u 330::u 331::u 332::u 333::u 334::u 335::u 336::u 337::u 338::u 339::u 340::u 341::u 342::u 343::u 344::u 345::u 346::u 347::u 348::u 349::u 350::u 351::u 352::u 353::u 354::u 355::u 356::u 357::u 358::u 359::u 360::u 361::u 362::u 363::u 364::u 365::u 366::u 367::u 368::u 369::u 370::u 371::u 372::u 373::u 374::u 375::u 376::u 377::u 378::u 379::u 380::u 381::u 382::u 383::u 384::u 385::u 386::u 387::u 388::u 389::u 390::u 391::u 392::u 393::u 394::u 395::u 396::u 397::u 398::u 399::u 400::u 401::u 402::u 403::u 404::u 405::u 406::u 407::u 408::u 409::u 410::u 411::u 412::u 413::u 414::[]).toArray,[]⟩∧∀ i v,a.tmps[i]? = some v→u i=v:=by
 obtain⟨t,d⟩:=a;obtain⟨h1,h2,_⟩:=h;dsimp only at h1 h2;obtain⟨u,hu⟩:∃ u:Nat→Value,∀ i,u i=t.getD i undef:=⟨fun i=>t.getD i undef,fun _=>rfl⟩
 refine⟨u,?_,fun i v hv=>?_⟩
 ·rw[h2];refine congrArg (fun x=>Act.mk x []) (Eq.trans ?_ (Zc4 u).symm);exact j8
 ·exact jY
theorem ZdN (r mb n tb pb db tn b d vb vc:Nat) (dbit:Bool) (a0:Act) (w1:World) (Q0:Exit→Act→World→Prop) (hg:Fr [(2,.pointer (some ⟨r,0,none⟩)),(3,.pointer (some ⟨mb,0,none⟩)),(4,.int .i64 n),(5,.slice (some ⟨tb,0,none⟩) n n),(7,.slice (some ⟨pb,0,none⟩) n n),(11,.slice (some ⟨db,0,none⟩) n n),(12,.int .i64 tn),(13,.int .i64 b),(14,.bool (!dbit)),(15,.slice (some ⟨vb,0,none⟩) n vc),(17,.int .i64 0)] a0)
  (hn:n≤9) (hb:b<n) (hd:dbit=false→d=b∧True∧True) (hh:HeapIs w1 db ((dnL n d).map Value.bool).toArray 4)
  (hj:∀ a,a<n→∃ (ob:Nat) (rb:Bool),w1.cell? ⟨vb,a,none⟩=some (.slice (some ⟨ob,0,none⟩) n n)∧vb<w1.heap.size∧w1.cell? ⟨ob,b,none⟩=some (.bool rb)∧ob<w1.heap.size)
  (hc:∀ (a ob:Nat) (rb:Bool),a<n→w1.cell? ⟨vb,a,none⟩=some (.slice (some ⟨ob,0,none⟩) n n)→w1.cell? ⟨ob,b,none⟩=some (.bool rb)→b<a→rb=true)
  (hQ:∀ a1,Fr [(2,.pointer (some ⟨r,0,none⟩)),(3,.pointer (some ⟨mb,0,none⟩)),(4,.int .i64 n),(5,.slice (some ⟨tb,0,none⟩) n n),(7,.slice (some ⟨pb,0,none⟩) n n),(11,.slice (some ⟨db,0,none⟩) n n),(12,.int .i64 tn),(13,.int .i64 b),(14,.bool (!dbit)),(15,.slice (some ⟨vb,0,none⟩) n vc)] a1→Q0 .normal a1 w1):Code.wp prog (mkCode [1,1,1,1,1,1,1,1,1,1,1,0,1,0,0,1,0,0,1,0,0,1,0,0,1,1,1,0,1]) Q0 a0 w1:=by
 obtain⟨u,hk,hu⟩:=Zs hg;obtain⟨g1,g2,s2,s3,s4,s5,s7,s11,s12,s13,s14,s15,s17,g3⟩:=hg;have e2:=hu 2 _ s2;have e3:=hu 3 _ s3;have e4:=hu 4 _ s4;have e5:=hu 5 _ s5;have e7:=hu 7 _ s7;have e11:=hu 11 _ s11;have e12:=hu 12 _ s12;have e13:=hu 13 _ s13;have e14:=hu 14 _ s14;have e15:=hu 15 _ s15;have e17:=hu 17 _ s17;rw[e2,e3,e4,e5,e7,e11,e12,e13,e14,e15,e17]at hk;subst hk;clear hu g1 g2 g3 e2 s2 e3 s3 e4 s4 e5 s5 e7 s7 e11 s11 e12 s12 e13 s13 e14 s14 e15 s15 e17 s17
 conv=>arg 2;whnf
 have HD:=hid hd;have HA:=hid hj;have hl:=hid hh;have HR:=hid hc;clear hd hj hh hc;have HQ:=hid hQ;clear hQ;go_wp2_with fail
 go_loopw [14,17] (fun r i wr=>∃ a:Nat,a≤n∧r=.bool (!dbit)∧i=.int .i64 a∧wr=w1) (fun _ i _=>n-(intOf i).toNat)
 case atStart=>exact⟨0,Nat.zero_le _,rfl,rfl,rfl⟩
 case round =>
  obtain⟨a,hw,rfl,rfl,rfl⟩:=hrel;by_cases he:a<n
  ·cases dbit
   ·obtain⟨db1,db2,db3⟩:=HD.out rfl;obtain⟨ob,rb,hp,hi,ho,ht⟩:=HA.out a he;have hs:vb<wr.heap.size:=hi;have ha:=hl.out.cell a;rw[List.getElem?_toArray,List.getElem?_map,Ve he]at ha;have hv:=hl.out.lt;have hr:=hid (HR.out a ob rb he hp ho);clear hi;by_cases hf:a=b
    ·subst hf
     replace ha:wr.cell? ⟨db,a,none⟩=some (.bool (decide (a<d))):=ha
     have hq:((a:Int)==(a:Int))=true:=by simp
     clear db1 db2 db3;exact yX
    ·have hq:((a:Int)==(b:Int))=false:=by simp;omega
     by_cases hm:a<b
     ·replace ha:wr.cell? ⟨db,a,none⟩=some (.bool true):=by rw[ha,decide_eq_true zaK];rfl
      clear db1 db2 db3 hf;exact yX
     ·replace ha:wr.cell? ⟨db,a,none⟩=some (.bool false):=by rw[ha,decide_eq_false zaK];rfl
      obtain rfl:rb=true:=hr.out zaK;clear db1 db2 db3 hf hm;exact yX
   ·exact yX
  ·obtain rfl:n=a:=zaK
   go_wp2_with fail
   exact HQ.out _ (ZA rfl rfl zf0)
end Go.Proofs.YtimpddecdodddaaGreat
