/- What stays where some blocks turn; rows of the call's own. A parser as it lies in memory: its box, its blocks, the rows of the last of them; and how they turn. -/
import Derived.Test.YtmhojfpidedjeaaGreatDoorTq03
namespace Go.Proofs.YtmhojfpidedjeaaGreatDoor
open Go.RowKit
set_option linter.unusedVariables false
structure Turn (S:Nat→Prop) (w w':World):Prop where
 os:w'.os=w.os
 tape:w'.tape=w.tape
 output:w'.output=w.output
 size:w.heap.size≤w'.heap.size
 block:∀ k,k<w.heap.size→¬ S k→w'.heap[k]? = w.heap[k]?
theorem Turn.refl (S:Nat→Prop) (w:World):Turn S w w:=⟨rfl,rfl,rfl,Nat.le_refl _,fun _ _ _=>rfl⟩
theorem Turn.trans {S : Nat→Prop} {a b c:World} (h:Turn S a b) (k:Turn S b c):Turn S a c:=
 ⟨k.os.trans h.os,k.tape.trans h.tape,k.output.trans h.output,Nat.le_trans h.size k.size,fun i hi hn=>(k.block i (Nat.lt_of_lt_of_le hi h.size) hn).trans (h.block i hi hn)⟩
theorem Turn.mono {S S':Nat→Prop} {a b:World} (h:Turn S a b) (hs:∀ k,k<a.heap.size→S k→S' k):Turn S' a b:=
 ⟨h.os,h.tape,h.output,h.size,fun i hi hn=>h.block i hi fun hs'=>hn (hs i hi hs')⟩
theorem Turn.since {S : Nat→Prop} {a b:World} (h:Since a b):Turn S a b:=⟨h.os,h.tape,h.output,h.size,fun i hi _=>Below.block h i hi⟩
theorem Turn.setCell {S : Nat→Prop} {a b:World} (h:Turn S a b) {p : Addr} (hp:S p.block) (v:Value):Turn S a (b.setCell p v):=
 ⟨h.os,h.tape,h.output,by simpa [World.setCell]using h.size,fun i hi hn=>by
  rw[Below.heap_setCell _ _ _ _ (fun e=>hn (by rw[e];exact hp))];exact h.block i hi hn⟩
theorem Turn.alloc {S : Nat→Prop} {a b:World} (h:Turn S a b) (o:Obj):Turn S a (b.alloc o):=h.trans (Turn.since ((Since.refl b).alloc o))
theorem Turn.toSince {S : Nat→Prop} {w0 a b:World} (h:Turn S a b) (h0:Since w0 a) (hs:∀ k,k<w0.heap.size→¬ S k):Since w0 b:=
 ⟨h.os.trans h0.os,h.tape.trans h0.tape,h.output.trans h0.output,Nat.le_trans h0.size h.size,fun i hi=>(h.block i (Nat.lt_of_lt_of_le hi h0.size) (hs i hi)).trans (h0.block i hi)⟩
theorem Turn.cell {S : Nat→Prop} {a b:World} (h:Turn S a b) {p : Addr} (hp:p.block<a.heap.size) (hn:¬ S p.block):b.cell? p=a.cell? p:=World.cell?_of_block (h.block p.block hp hn)
theorem Nums.turn {S : Nat→Prop} {k : IntKind} {w w':World} {v : Value} {l : List Int} (h:Nums k w v l) (t:Turn S w w') (hn:∀ q,v.ownBlock=some q→¬ S q):Nums k w' v l:=by
 rcases h with h|⟨b,off,cap,h1,h2,h3,h4,h5⟩
 ·exact .inl h
 ·exact .inr ⟨b,off,cap,h1,h2,h3,Nat.lt_of_lt_of_le h4 t.size,fun j n hj=>by rw[t.cell (p:=⟨b,off+j,none⟩) h4 (hn b (by rw[h1];rfl))];exact h5 j n hj⟩
theorem turn_grown {w w':World} {row:Option Nat} (h:w.grownBy w' row):Turn (fun k=>row=some k) w w':=⟨h.os,h.tape,h.output,h.size,fun k hk hn=>h.block k hk (fun e=>hn e.symm)⟩
theorem own_turn {S : Nat→Prop} {w w':World} {base:Nat} {e : TypeId} {size n:Nat} {v : Value} {xs:List Value} (h:w.ownsRow base e size v n xs) (t:Turn S w w') (hn:∀ q,v.ownBlock=some q→¬ S q):w'.ownsRow base e size v n xs:=by
 obtain⟨h0,h|⟨g,cap,cur,h1,h2,h3,h4⟩⟩:=h
 ·exact⟨h0,.inl h⟩
 ·exact⟨h0,.inr ⟨g,cap,cur,h1,h2,(t.block g (Array.getElem?_eq_some_iff.1 h3).1 (hn g (by rw[h1];rfl))).trans h3,h4⟩⟩
theorem own_ne {w : World} {b1 b2:Nat} {e1 e2:TypeId} {s1 s2 n1 n2:Nat} {v1 v2:Value} {x1 x2:List Value} (h1:w.ownsRow b1 e1 s1 v1 n1 x1) (h2:w.ownsRow b2 e2 s2 v2 n2 x2) (hne:e1≠e2) (q:Nat) (hq:v1.ownBlock=some q):¬ v2.ownBlock=some q:=by
 intro hq2
 obtain⟨_,⟨h,_⟩|⟨g,_,_,hv,_,hg,_⟩⟩:=h1
 ·rw[h]at hq;cases hq
 obtain⟨_,⟨h,_⟩|⟨g',_,_,hv',_,hg',_⟩⟩:=h2
 ·rw[h]at hq2;cases hq2
 rw[hv]at hq;rw[hv']at hq2
 have a:g=q:=Option.some.inj hq
 have b:g'=q:=Option.some.inj hq2
 rw[a]at hg;rw[b]at hg';rw[hg]at hg'
 simp only[Option.some.injEq,Obj.cells.injEq]at hg'
 exact hne hg'.2.1
theorem own_base {w : World} {b b':Nat} {e : TypeId} {size n:Nat} {v : Value} {xs:List Value} (h:w.ownsRow b e size v n xs) (hb:b'≤b):w.ownsRow b' e size v n xs:=by
 obtain⟨h0,h|⟨g,cap,cur,h1,h2,h3⟩⟩:=h
 ·exact⟨h0,.inl h⟩
 ·exact⟨h0,.inr ⟨g,cap,cur,h1,Nat.le_trans hb h2,h3⟩⟩
theorem own_heap {w : World} {b : Nat} {e : TypeId} {size n:Nat} {v : Value} {xs:List Value} (h:w.ownsRow b e size v n xs) {q : Nat} (hq:v.ownBlock=some q):∃ cur,w.heap[q]? = some (.cells cur e (0,0)):=by
 obtain⟨_,⟨hv,_⟩|⟨g,_,cur,hv,_,hg,_⟩⟩:=h
 ·rw[hv]at hq;cases hq
 ·rw[hv]at hq
  obtain rfl:g=q:=Option.some.inj hq
  exact⟨cur,hg⟩
theorem HeapIs.turn {S : Nat→Prop} {w w':World} {q : Nat} {cs:Array Value} {T : TypeId} (h:HeapIs w q cs T) (t:Turn S w w') (hn:¬ S q):HeapIs w' q cs T:=(t.block q h.lt hn).trans h
theorem own_not {w : World} {b : Nat} {e : TypeId} {size n:Nat} {v : Value} {xs:List Value} (h:w.ownsRow b e size v n xs) {q : Nat} {cs:Array Value} {T : TypeId} (hb:HeapIs w q cs T) (hT:e≠T):¬ v.ownBlock=some q:=by
 intro hq
 obtain⟨cur,hc⟩:=own_heap h hq
 rw[show w.heap[q]? = _ from hb]at hc
 simp only[Option.some.injEq,Obj.cells.injEq]at hc
 exact hT hc.2.1.symm
theorem row_of_own {α:Type} {f : α→List Value} {sz:Nat} {p : World→α→Prop} (hf:∀ x,(f x).length=sz) {e : TypeId} {base:Nat} {w : World} {v : Value} {l : List α} (h:OwnRow f sz e base w v l) (hp:∀ x∈l,p w x):RowIn f sz p w v l:=by
 rcases h.cells hf with ⟨h1,h2⟩|⟨g,cap,hv,hc,hm,_,hg,hcell⟩
 ·exact .inl ⟨_,h1,h2⟩
 ·exact .inr ⟨g,0,cap,hv,hc,hm,hg,fun j x hj=>⟨fun t ht=>by rw[Nat.zero_add];exact hcell j t x hj ht,hp x (List.mem_of_getElem? hj)⟩⟩
def NewOr (w:World) (v v':Value):Prop:=∀ q,v'.ownBlock=some q→v.ownBlock=some q∨w.heap.size≤q
theorem run_append_own2 {P : Program} (w:World) (base:Nat) (t ty e:TypeId) (i:TypeInfo) (z:Value) (size bytes:Nat) (ht:P.underlying t=some (.slice e)) (hi:P.info? e=some i) (hz:i.zero=some z)
  (hsize:i.size=size) (hby:i.bytes=bytes) (hzs:z.cells.size=size) (hsz:0<size)
  (v:Value) (n:Nat) (xs:List Value) (hown:w.ownsRow base e size v n xs)
  (a:Addr) (m c:Nat) (news:List Value) (hl:news.length=m*size) (hnews:∀ j u,news[j]? = some u→w.cell? (a.add j)=some u) (h1:∀ u∈news,u.oneCell'=true)
  (h63:n+m≤maxLen) (hbytes:(n+m)*bytes≤140737488355328) (hbase:base≤w.heap.size) :
  ∃ v' w',(Builtin.append_ #[t,t] ty #[v,.slice (some a) m c]).run P w=.ok v' w'∧w'.ownsRow base e size v' (n+m) (xs++news)∧w.grownBy w' v.ownBlock∧NewOr w v v':=by
 obtain⟨v',w',hr,h2,h3,_⟩:=run_append_own w base t ty e i z size bytes ht hi hz hsize hby hzs hsz v n xs hown a m c news hl hnews h1 h63 hbytes hbase
 refine⟨v',w',hr,h2,h3,?_⟩
 obtain⟨hx0,⟨hv,hn⟩|⟨g,cap,cur,hv,hb,hg,hnc,hcm,hcs,htake⟩⟩:=hown
 ·obtain⟨v2,w2,hr2,h22,_,_⟩:=run_append_own (P:=P) w w.heap.size t ty e i z size bytes ht hi hz hsize hby hzs hsz v n xs ⟨hx0,.inl ⟨hv,hn⟩⟩ a m c news hl hnews h1 h63 hbytes (Nat.le_refl _)
  rw[hr]at hr2
  cases hr2
  obtain⟨_,⟨hv2,_⟩|⟨g2,_,_,hv2,hb2,_⟩⟩:=h22
  ·intro q hq;rw[hv2]at hq;cases hq
  ·intro q hq;rw[hv2]at hq;cases hq;exact .inr hb2
 ·subst hv
  subst hsize
  by_cases hroom:n+m≤cap
  ·have hfit:n*i.size+news.length≤cur.size:=by rw[hl,hcs,←Nat.add_mul];exact Nat.mul_le_mul_right _ hroom
   have hr2:=run_append_room (P:=P) w t ty e i ht hi g n cap cur hg a m c news hl hnews h1 hroom hfit
   rw[hr]at hr2
   cases hr2
   exact fun q hq=>.inl hq
  ·have holds:∀ j u,xs[j]? = some u→w.cell? ((⟨g,0,none⟩:Addr).add j)=some u:=World.ownsRow.cells (show w.ownsRow base e i.size (.slice (some ⟨g,0,none⟩) n cap) n xs from⟨hx0,.inr ⟨g,cap,cur,rfl,hb,hg,hnc,hcm,hcs,htake⟩⟩) (g:=g) rfl
   have hsmall:n+m≤9223372036854775807:=by simp only[maxLen]at h63;omega
   have hr2:=run_append_grow (P:=P) w t ty e i z ht hi hz ⟨g,0,none⟩ n cap xs hx0 holds a m c news hl hnews (by omega) (by omega) (growslice_fits (by omega) (by rw[hby];exact hbytes))
   rw[hr]at hr2
   cases hr2
   intro q hq
   cases hq
   exact .inr (Nat.le_refl _)
theorem wpList_append_own2 {P : Program} {w : World} {ops:Array Oper} {rest:List Oper} {o : Oper} {a : Act} {Q : Exit→Act→World→Prop} (hgd:o.guard=none) (s x:Operand) (t:TypeId)
  (ho:o.op=.call { callee:=.builtin .append,args:=#[s,x],argTypes:=#[t,t] })
  (base:Nat) (e:TypeId) (i:TypeInfo) (z:Value) (size bytes:Nat) (ht:P.underlying t=some (.slice e)) (hi:P.info? e=some i) (hz:i.zero=some z)
  (hsize:i.size=size) (hby:i.bytes=bytes) (hzs:z.cells.size=size) (hsz:0<size)
  (v:Value) (n:Nat) (xs:List Value) (hs:a.eval s=v) (hown:w.ownsRow base e size v n xs)
  (ad:Addr) (m c:Nat) (news:List Value) (hx:a.eval x=.slice (some ad) m c) (hl:news.length=m*size) (hnews:∀ j u,news[j]? = some u→w.cell? (ad.add j)=some u) (h1:∀ u∈news,u.oneCell'=true)
  (h63:n+m≤maxLen) (hbytes:(n+m)*bytes≤140737488355328) (hbase:base≤w.heap.size)
  (h:∀ v' w',w'.ownsRow base e size v' (n+m) (xs++news)→Turn (fun q=>v.ownBlock=some q) w w'→NewOr w v v'→wpList P ops Q rest (a.put o.dst v') w'):wpList P ops Q (o::rest) a w:=by
 refine wpList_plain hgd fun _ hK=>?_
 obtain⟨v',w',hr,h2,h3,h4⟩:=run_append_own2 (P:=P) w base t o.type e i z size bytes ht hi hz hsize hby hzs hsz v n xs hown ad m c news hl hnews h1 h63 hbytes hbase
 unfold Oper.wp execOp
 simp only[ho,resolve,invoke,builtin,Sem.run_bind,Sem.run_pure,Result.andThen_ok,List.map_toArray,List.map_cons,List.map_nil,hs,hx,hr]
 exact hK _ _ (h v' w' h2 (turn_grown h3) h4)
theorem wpList_append_one2 {α:Type} {P : Program} {base:Nat} {w : World} {ops:Array Oper} {rest:List Oper} {o : Oper} {a : Act} {Q : Exit→Act→World→Prop} (f:α→List Value) (sz:Nat) (hf:∀ x,(f x).length=sz) (hsz:0<sz) (hgd:o.guard=none) (s x:Operand) (t:TypeId)
  (ho:o.op=.call { callee:=.builtin .append,args:=#[s,x],argTypes:=#[t,t] })
  (e:TypeId) (z:Value) (bytes:Nat) (ht:P.underlying t=some (.slice e)) (hinfo:(P.info? e).map (fun i=>(i.zero,i.size,i.bytes))=some (some z,sz,bytes)) (hz:z.cells.size=sz)
  (v:Value) (l:List α) (y:α) (b cap:Nat) (t2:TypeId) (hs:a.eval s=v) (hx:a.eval x=.slice (some ⟨b,0,none⟩) 1 cap) (hown:OwnRow f sz e base w v l) (hb:w.heap[b]? = some (.cells (f y).toArray t2 (0,0))) (h1:∀ u∈f y,u.oneCell'=true)
  (hm:l.length+1≤maxLen) (hlen:(l.length+1)*bytes≤140737488355328) (hbase:base≤w.heap.size)
  (h:∀ v' w',OwnRow f sz e base w' v' (l++[y])→Turn (fun k=>v.ownBlock=some k) w w'→NewOr w v v'→wpList P ops Q rest (a.put o.dst v') w'):wpList P ops Q (o::rest) a w:=by
 obtain⟨i,hi,hz0,hz1,hz2⟩:=info_parts hinfo
 refine wpList_append_own2 hgd s x t ho base e i z sz bytes ht hi hz0 hz1 hz2 hz hsz v _ _ hs hown ⟨b,0,none⟩ 1 cap (f y) hx (by rw[hf,Nat.one_mul]) ?_ h1 hm hlen hbase ?_
 ·intro j u hu
  have e2:(⟨b,0,none⟩:Addr).add j=⟨b,j,none⟩:=by
   unfold Addr.add;split
   ·rename_i h0;subst h0;rfl
   ·simp
  rw[e2]
  simp[World.cell?,hb,hu]
 ·intro v' w' hown' t h4
  refine h v' w' ?_ t h4
  unfold OwnRow
  rw[List.length_append,List.flatMap_append]
  simpa using hown'
theorem wpList_append_nums2 {P : Program} {base:Nat} {w : World} {ops:Array Oper} {rest:List Oper} {o : Oper} {a : Act} {Q : Exit→Act→World→Prop} (k:IntKind) (hgd:o.guard=none) (s x:Operand) (t:TypeId)
  (ho:o.op=.call { callee:=.builtin .append,args:=#[s,x],argTypes:=#[t,t] })
  (e:TypeId) (z:Value) (bytes:Nat) (ht:P.underlying t=some (.slice e)) (hinfo:(P.info? e).map (fun i=>(i.zero,i.size,i.bytes))=some (some z,1,bytes)) (hz:z.cells.size=1) (hby:bytes≤8)
  (v xv:Value) (l1 l2:List Int) (hs:a.eval s=v) (hx:a.eval x=xv) (hown:w.ownsRow base e 1 v l1.length (l1.map (Value.int k))) (hl2:Nums k w xv l2)
  (hlen:l1.length+l2.length≤1000000) (hbase:base≤w.heap.size)
  (h:∀ v' w',w'.ownsRow base e 1 v' (l1++l2).length ((l1++l2).map (Value.int k))→Turn (fun q=>v.ownBlock=some q) w w'→NewOr w v v'→wpList P ops Q rest (a.put o.dst v') w'):wpList P ops Q (o::rest) a w:=by
 obtain⟨i,hi,hz0,hz1,hz2⟩:=info_parts hinfo
 rcases hl2 with ⟨ad,hv,rfl⟩|⟨b,off,cap,hv,hcap,_,hb,hcell⟩
 ·subst hv
  cases ad with
  | none =>
   refine wpList_append_own_none hgd s x t ho base e i 1 ht hi v _ _ hs hown hx (h v w ?_ (Turn.refl _ _) fun q hq=>.inl hq)
   simpa using hown
  | some ad =>
   refine wpList_append_own2 hgd s x t ho base e i z 1 bytes ht hi hz0 hz1 hz2 hz (by decide) v _ _ hs hown ad 0 0 [] hx rfl (fun j u hu=>by cases hu) (fun u hu=>by cases hu) (by unfold maxLen;simp at hlen;omega) ?_ hbase ?_
   ·have:(l1.length+0)*bytes≤1000000*8:=Nat.mul_le_mul (by simpa using hlen) hby
    omega
   ·intro v' w' hown' t h4
    exact h v' w' (by simpa using hown') t h4
 ·subst hv
  refine wpList_append_own2 hgd s x t ho base e i z 1 bytes ht hi hz0 hz1 hz2 hz (by decide) v _ _ hs hown ⟨b,off,none⟩ l2.length cap (l2.map (Value.int k)) hx (by simp) ?_ ?_ (by unfold maxLen;omega) ?_ hbase ?_
  ·intro j u hu
   rw[List.getElem?_map]at hu
   obtain⟨n,hn,rfl⟩:=Option.map_eq_some_iff.1 hu
   have:=hcell j n hn
   unfold Addr.add
   split
   ·rename_i h0;subst h0;simpa using this
   ·exact this
  ·intro u hu
   obtain⟨n,_,rfl⟩:=List.mem_map.1 hu
   rfl
  ·have:(l1.length+l2.length)*bytes≤1000000*8:=Nat.mul_le_mul hlen hby
   omega
  ·intro v' w' hown' t h4
   exact h v' w' (by simpa using hown') t h4
theorem RowIn.turn {α:Type} {f : α→List Value} {sz:Nat} {p : World→α→Prop} {S : Nat→Prop} {w w':World} {v : Value} {l : List α} (h:RowIn f sz p w v l) (t:Turn S w w') (hn:∀ q,v.ownBlock=some q→¬ S q) (hp:∀ x∈l,p w x→p w' x):RowIn f sz p w' v l:=by
 rcases h with h|⟨b,off,cap,h1,h2,h3,h4,h5⟩
 ·exact .inl h
 ·exact .inr ⟨b,off,cap,h1,h2,h3,Nat.lt_of_lt_of_le h4 t.size,fun j x hj=>⟨fun t2 ht=>by rw[t.cell (p:=⟨b,off+j*sz+t2,none⟩) h4 (hn b (by rw[h1];rfl))];exact (h5 j x hj).1 t2 ht,hp x (List.mem_of_getElem? hj) (h5 j x hj).2⟩⟩
theorem own_setCell {w : World} {base:Nat} {e : TypeId} {sz n g cap:Nat} {xs:List Value} (h:w.ownsRow base e sz (.slice (some ⟨g,0,none⟩) n cap) n xs) (j:Nat) (y:Value):(w.setCell ⟨g,j,none⟩ y).ownsRow base e sz (.slice (some ⟨g,0,none⟩) n cap) n (xs.set j y):=by
 obtain⟨h0,⟨hv,_⟩|⟨g2,cap2,cur,hv,h2,hg,h4,h5,h6,h7⟩⟩:=h
 ·cases hv
 ·cases hv
  have h1:=HeapIs.set (show HeapIs w g cur e from hg) j y
  refine⟨by rw[List.length_set];exact h0,.inr ⟨g,cap,cur.setIfInBounds j y,rfl,h2,h1,h4,h5,by rw[Array.size_setIfInBounds];exact h6,?_⟩⟩
  rw[Array.toList_setIfInBounds,List.take_set,h7]
def Stays (S:Nat→Prop) (w:World) (v:Value):Prop:=∀ q,v.ownBlock=some q→¬ S q∧q<w.heap.size
theorem Stays.mono {S S':Nat→Prop} {w w':World} {v : Value} (h:Stays S w v) (hs:∀ q,S' q→S q∨w.heap.size≤q) (hz:w.heap.size≤w'.heap.size):Stays S' w' v:=fun q hq=>by
 obtain⟨h1,h2⟩:=h q hq
 refine⟨fun h3=>?_,by omega⟩
 rcases hs q h3 with h4|h4
 ·exact h1 h4
 ·omega
theorem Stays.nil (S:Nat→Prop) (w:World):Stays S w (.slice none 0 0):=fun q hq=>by cases hq
theorem heap_ne {w : World} {a b:Nat} {cs ds:Array Value} {T U:TypeId} (h1:HeapIs w a cs T) (h2:HeapIs w b ds U) (hT:T≠U):a≠b:=by
 rintro rfl
 unfold HeapIs at h1 h2
 rw[h1]at h2
 simp only[Option.some.injEq,Obj.cells.injEq]at h2
 exact hT h2.2.1
theorem flat_set {α:Type} (f:α→List Value) (sz:Nat) (hf:∀ x,(f x).length=sz):∀ (l:List α) (i t:Nat) (x x':α) (y:Value),l[i]? = some x→t<sz→f x'=(f x).set t y→(l.flatMap f).set (i*sz+t) y=(l.set i x').flatMap f
 | [],i,t,x,x',y,h,_,_=>by simp at h
 | z::r,0,t,x,x',y,h,ht,e=>by
  simp at h
  subst h
  rw[List.flatMap_cons,Nat.zero_mul,Nat.zero_add,List.set_append_left _ _ (by rw[hf];exact ht),←e,List.set_cons_zero,List.flatMap_cons]
 | z::r,i+1,t,x,x',y,h,ht,e=>by
  have ih:=flat_set f sz hf r i t x x' y (by simpa using h) ht e
  rw[List.flatMap_cons,List.set_append_right _ _ (by rw[hf,Nat.succ_mul];omega),hf,show (i+1)*sz+t-sz=i*sz+t from by rw[Nat.succ_mul];omega,ih,List.set_cons_succ,List.flatMap_cons]
theorem Turn.later {S R:Nat→Prop} {a b c:World} (h:Turn S a b) (t:Turn R b c) (hR:∀ q,R q→S q∨a.heap.size≤q):Turn S a c:=
 ((h.mono fun _ _ hs=>Or.inl hs:Turn (fun q=>S q∨a.heap.size≤q) a b).trans (t.mono fun q _ hq=>hR q hq)).mono fun q hq hs=>by
  rcases hs with hs|hs
  ·exact hs
  ·omega
theorem RowIn.turn2 {α:Type} {f : α→List Value} {sz:Nat} {p p':World→α→Prop} {R : Nat→Prop} {w w':World} {v : Value} {l : List α} (h:RowIn f sz p w v l) (t:Turn R w w') (hn:∀ q,v.ownBlock=some q→¬ R q) (hp:∀ x∈l,p w x→p' w' x):RowIn f sz p' w' v l:=by
 rcases h with h|⟨b,off,cap,h1,h2,h3,h4,h5⟩
 ·exact .inl h
 ·exact .inr ⟨b,off,cap,h1,h2,h3,Nat.lt_of_lt_of_le h4 t.size,fun j x hj=>⟨fun u hu=>by rw[t.cell (p:=⟨b,off+j*sz+u,none⟩) h4 (hn b (by rw[h1];rfl))];exact (h5 j x hj).1 u hu,hp x (List.mem_of_getElem? hj) (h5 j x hj).2⟩⟩
def PhiOk (S:Nat→Prop) (w:World) (p:FPhi):Prop:=PairsIn w p.inv p.ins∧Stays S w p.inv
def InsOk (S:Nat→Prop) (w:World) (x:FIns):Prop:=Ints w x.av x.args∧Stays S w x.av
structure TermOk (S:Nat→Prop) (w:World) (t:FTerm):Prop where
 read:FTermIn w t
 ar:Stays S w t.argsv
 tg:Stays S w t.tov
structure BkStay (S:Nat→Prop) (w:World) (b:FBlk):Prop where
 phis:RowIn fpcells 2 (PhiOk S) w b.phv b.phis
 phs:Stays S w b.phv
 ins:RowIn ficells 5 (InsOk S) w b.inv b.ins
 inss:Stays S w b.inv
 term:TermOk S w b.term
structure BkLast (S:Nat→Prop) (w:World) (b:FBlk):Prop where
 phis:OwnRow fpcells 2 60 0 w b.phv b.phis
 phi:∀ p∈b.phis,PhiOk S w p
 ins:OwnRow ficells 5 51 0 w b.inv b.ins
 inx:∀ x∈b.ins,InsOk S w x
 term:TermOk S w b.term
section
variable {S S' R:Nat→Prop} {w w':World}
theorem PhiOk.turn {p : FPhi} (h:PhiOk S w p) (t:Turn R w w') (hR:∀ q,R q→S q) (hS:∀ q,S' q→S q∨w.heap.size≤q):PhiOk S' w' p:=
 ⟨RowIn.turn h.1 t (fun q hq hr=>(h.2 q hq).1 (hR q hr)) (fun _ _ _=>trivial),h.2.mono hS t.size⟩
theorem InsOk.turn {x : FIns} (h:InsOk S w x) (t:Turn R w w') (hR:∀ q,R q→S q) (hS:∀ q,S' q→S q∨w.heap.size≤q):InsOk S' w' x:=
 ⟨Nums.turn h.1 t fun q hq hr=>(h.2 q hq).1 (hR q hr),h.2.mono hS t.size⟩
theorem TermOk.turn {x : FTerm} (h:TermOk S w x) (t:Turn R w w') (hR:∀ q,R q→S q) (hS:∀ q,S' q→S q∨w.heap.size≤q):TermOk S' w' x:=
 ⟨⟨Nums.turn h.read.1 t fun q hq hr=>(h.ar q hq).1 (hR q hr),Nums.turn h.read.2 t fun q hq hr=>(h.tg q hq).1 (hR q hr)⟩,h.ar.mono hS t.size,h.tg.mono hS t.size⟩
theorem BkStay.turn {b : FBlk} (h : BkStay S w b) (t : Turn R w w') (hR : ∀ q, R q → S q) (hS : ∀ q, S' q → S q ∨ w.heap.size ≤ q) : BkStay S' w' b :=
  ⟨RowIn.turn2 h.phis t (fun q hq hr => (h.phs q hq).1 (hR q hr)) (fun p _ hp => hp.turn t hR hS), h.phs.mono hS t.size,
   RowIn.turn2 h.ins t (fun q hq hr => (h.inss q hq).1 (hR q hr)) (fun x _ hx => hx.turn t hR hS), h.inss.mono hS t.size, h.term.turn t hR hS⟩
end
def PaOwn (pb:Nat) (bv:Value) (bl:List FBlk) (q:Nat):Prop:=q=pb∨bv.ownBlock=some q∨∃ b,bl[bl.length-1]? = some b∧(b.phv.ownBlock=some q∨b.inv.ownBlock=some q)
def PaS (w0:World) (pb:Nat) (bv:Value) (bl:List FBlk) (q:Nat):Prop:=PaOwn pb bv bl q∨q<w0.heap.size
structure PaM (T:TypeId) (w0:World) (pb:Nat) (tl:List Value) (params pl e:Int) (bv:Value) (bl:List FBlk) (w:World):Prop where
 box:HeapIs w pb (.int .i64 params::bv::.int .i64 pl::.int .i64 e::tl).toArray T
 row:OwnRow fbcells 6 57 0 w bv bl
 early:∀ i b,bl[i]? = some b→i+1<bl.length→BkStay (PaS w0 pb bv bl) w b
 last:∀ b,bl[bl.length-1]? = some b→BkLast (PaS w0 pb bv bl) w b
 old:Since w0 w
 new:∀ q,PaOwn pb bv bl q→w0.heap.size≤q
 kind:T≠57∧T≠60∧T≠51
section
variable {T : TypeId} {w0 w w':World} {pb:Nat} {tl:List Value} {params pl e:Int} {bv:Value} {bl:List FBlk}
theorem PaM.cell (h:PaM T w0 pb tl params pl e bv bl w) (i:Nat):w.cell? ⟨pb,i,none⟩=(.int .i64 params::bv::.int .i64 pl::.int .i64 e::tl)[i]?:=by rw[h.box.cell,List.getElem?_toArray]
theorem BkLast.since {S : Nat→Prop} {b : FBlk} (h:BkLast S w b) (s:Since w w') (hS:∀ q,S q→q<w.heap.size):BkLast S w' b:=
 have hs:∀ q,S q→S q∨w.heap.size≤q:=fun q hq=>.inl hq
 have t:Turn (fun _=>False) w w':=Turn.since s
 ⟨OwnRow.keep h.phis s,fun p hp=>(h.phi p hp).turn t (fun _ h=>h.elim) hs,OwnRow.keep h.ins s,fun x hx=>(h.inx x hx).turn t (fun _ h=>h.elim) hs,h.term.turn t (fun _ h=>h.elim) hs⟩
theorem PaM.lt (h:PaM T w0 pb tl params pl e bv bl w):∀ q,PaOwn pb bv bl q→q<w.heap.size:=by
 rintro q (rfl|hq|⟨b,hb,hq|hq⟩)
 ·exact h.box.lt
 ·exact (World.ownsRow.lt h.row q hq).2
 ·exact (World.ownsRow.lt (h.last b hb).phis q hq).2
 ·exact (World.ownsRow.lt (h.last b hb).ins q hq).2
theorem PaM.ltS (h:PaM T w0 pb tl params pl e bv bl w):∀ q,PaS w0 pb bv bl q→q<w.heap.size:=by
 rintro q (hq|hq)
 ·exact h.lt q hq
 ·exact Nat.lt_of_lt_of_le hq h.old.size
theorem PaM.keep (h:PaM T w0 pb tl params pl e bv bl w) (s:Since w w'):PaM T w0 pb tl params pl e bv bl w':=
 ⟨h.box.keep s,OwnRow.keep h.row s,fun i b hb hi=>(h.early i b hb hi).turn (R:=fun _=>False) (Turn.since s) (fun _ h=>h.elim) (fun q hq=>.inl hq),fun b hb=>(h.last b hb).since s h.ltS,h.old.trans s,h.new,h.kind⟩
theorem PaM.put (h:PaM T w0 pb tl params pl e bv bl w) (i:Nat) (x:Value) {params' pl' e':Int} {tl':List Value} (hx:(.int .i64 params::bv::.int .i64 pl::.int .i64 e::tl).set i x=.int .i64 params'::bv::.int .i64 pl'::.int .i64 e'::tl'):PaM T w0 pb tl' params' pl' e' bv bl (w.setCell ⟨pb,i,none⟩ x):=by
 have t:Turn (fun q=>q=pb) w (w.setCell ⟨pb,i,none⟩ x):=(Turn.refl (fun q=>q=pb) w).setCell (p:=⟨pb,i,none⟩) rfl x
 have hR:∀ q,q=pb→PaS w0 pb bv bl q:=fun q hq=>.inl (.inl hq)
 have hS:∀ q,PaS w0 pb bv bl q→PaS w0 pb bv bl q∨w.heap.size≤q:=fun q hq=>.inl hq
 have hb:=h.box.set i x
 rw[List.setIfInBounds_toArray,hx]at hb
 refine⟨hb,own_turn h.row t fun q hq hr=>?_,fun j b hj hi=>(h.early j b hj hi).turn t hR hS,fun b hl=>?_,t.toSince h.old fun q hq hr=>?_,h.new,h.kind⟩
 ·subst hr;exact own_not h.row h.box (Ne.symm h.kind.1) hq
 ·have hl2:=h.last b hl
  exact⟨own_turn hl2.phis t fun q hq hr=>by subst hr;exact own_not hl2.phis h.box (Ne.symm h.kind.2.1) hq,fun p hp=>(hl2.phi p hp).turn t hR hS,own_turn hl2.ins t fun q hq hr=>by subst hr;exact own_not hl2.ins h.box (Ne.symm h.kind.2.2) hq,fun y hy=>(hl2.inx y hy).turn t hR hS,hl2.term.turn t hR hS⟩
 ·have:=h.new q (.inl hr);omega
theorem PaM.reBox (h:PaM T w0 pb tl params pl e bv bl w) (t:Turn (fun q=>q=pb) w w') {params' pl' e':Int} {tl':List Value} (hb:HeapIs w' pb (.int .i64 params'::bv::.int .i64 pl'::.int .i64 e'::tl').toArray T):PaM T w0 pb tl' params' pl' e' bv bl w':=by
 have hR:∀ q,q=pb→PaS w0 pb bv bl q:=fun q hq=>.inl (.inl hq)
 have hS:∀ q,PaS w0 pb bv bl q→PaS w0 pb bv bl q∨w.heap.size≤q:=fun q hq=>.inl hq
 refine⟨hb,own_turn h.row t fun q hq hr=>?_,fun j b hj hi=>(h.early j b hj hi).turn t hR hS,fun b hl=>?_,t.toSince h.old fun q hq hr=>?_,h.new,h.kind⟩
 ·subst hr;exact own_not h.row h.box (Ne.symm h.kind.1) hq
 ·have hl2:=h.last b hl
  exact⟨own_turn hl2.phis t fun q hq hr=>by subst hr;exact own_not hl2.phis h.box (Ne.symm h.kind.2.1) hq,fun p hp=>(hl2.phi p hp).turn t hR hS,own_turn hl2.ins t fun q hq hr=>by subst hr;exact own_not hl2.ins h.box (Ne.symm h.kind.2.2) hq,fun y hy=>(hl2.inx y hy).turn t hR hS,hl2.term.turn t hR hS⟩
 ·have:=h.new q (.inl hr);omega
theorem PaM.updG (h:PaM T w0 pb tl params pl e bv bl w) {b b':FBlk} (hb:bl[bl.length-1]? = some b) {bb cap:Nat} (hbv:bv=.slice (some ⟨bb,0,none⟩) bl.length cap) {w1 w2:World} (t:Turn (fun q=>b.phv.ownBlock=some q∨b.inv.ownBlock=some q) w w1) (t2:Turn (fun q=>q=bb) w1 w2) (hset:OwnRow fbcells 6 57 0 w1 bv bl→OwnRow fbcells 6 57 0 w2 bv (bl.set (bl.length-1) b'))
  (hp:OwnRow fpcells 2 60 0 w1 b'.phv b'.phis) (hi:OwnRow ficells 5 51 0 w1 b'.inv b'.ins) (np:NewOr w b.phv b'.phv) (ni:NewOr w b.inv b'.inv) (hphi:∀ p∈b'.phis,PhiOk (PaS w0 pb bv bl) w p) (hins:∀ x∈b'.ins,InsOk (PaS w0 pb bv bl) w x) (hterm:TermOk (PaS w0 pb bv bl) w b'.term) :
  PaM T w0 pb tl params pl e bv (bl.set (bl.length-1) b') w2:=by
 subst hbv
 have hn:0<bl.length:=by
  rcases Nat.eq_zero_or_pos bl.length with h0|h0
  ·rw[List.length_eq_zero_iff.1 h0]at hb;simp at hb
  ·exact h0
 have hlast:=h.last b hb
 have hb':(bl.set (bl.length-1) b')[bl.length-1]? = some b':=by rw[List.getElem?_set_self (by omega)]
 have hlen:(bl.set (bl.length-1) b').length=bl.length:=List.length_set ..
 obtain⟨cur,hbb⟩:=own_heap h.row (q:=bb) rfl
 have hRS:∀ q,(b.phv.ownBlock=some q∨b.inv.ownBlock=some q)→PaOwn pb (.slice (some ⟨bb,0,none⟩) bl.length cap) bl q:=fun q hq=>.inr (.inr ⟨b,hb,hq⟩)
 have hrow1:OwnRow fbcells 6 57 0 w1 (.slice (some ⟨bb,0,none⟩) bl.length cap) bl:=own_turn h.row t fun q hq hr=>by
  rcases hr with hr|hr
  ·exact own_ne h.row hlast.phis (by decide) q hq hr
  ·exact own_ne h.row hlast.ins (by decide) q hq hr
 obtain⟨cur1,hbb1⟩:=own_heap hrow1 (q:=bb) rfl
 have t3:Turn (fun q=>(b.phv.ownBlock=some q∨b.inv.ownBlock=some q)∨q=bb) w w2:=(t.mono fun _ _ h=>.inl h).trans (t2.mono fun _ _ h=>.inr h)
 have hR3:∀ q,((b.phv.ownBlock=some q∨b.inv.ownBlock=some q)∨q=bb)→PaOwn pb (.slice (some ⟨bb,0,none⟩) bl.length cap) bl q:=fun q hq=>by
  rcases hq with hq|rfl
  ·exact hRS q hq
  ·exact .inr (.inl rfl)
 have hS:∀ q,PaOwn pb (.slice (some ⟨bb,0,none⟩) bl.length cap) (bl.set (bl.length-1) b') q→PaOwn pb (.slice (some ⟨bb,0,none⟩) bl.length cap) bl q∨w.heap.size≤q:=by
  rintro q (rfl|hq|⟨c,hcc,hq⟩)
  ·exact .inl (.inl rfl)
  ·exact .inl (.inr (.inl hq))
  ·rw[hlen,hb']at hcc
   obtain rfl:=Option.some.inj hcc
   rcases hq with hq|hq
   ·rcases np q hq with h1|h1
    ·exact .inl (hRS q (.inl h1))
    ·exact .inr h1
   ·rcases ni q hq with h1|h1
    ·exact .inl (hRS q (.inr h1))
    ·exact .inr h1
 have hS2:∀ q,PaS w0 pb (.slice (some ⟨bb,0,none⟩) bl.length cap) (bl.set (bl.length-1) b') q→PaS w0 pb (.slice (some ⟨bb,0,none⟩) bl.length cap) bl q∨w.heap.size≤q:=fun q hq=>by
  rcases hq with hq|hq
  ·rcases hS q hq with h1|h1
   ·exact .inl (.inl h1)
   ·exact .inr h1
  ·exact .inl (.inr hq)
 have hR4:∀ q,((b.phv.ownBlock=some q∨b.inv.ownBlock=some q)∨q=bb)→PaS w0 pb (.slice (some ⟨bb,0,none⟩) bl.length cap) bl q:=fun q hq=>.inl (hR3 q hq)
 have hpb:∀ q,((b.phv.ownBlock=some q∨b.inv.ownBlock=some q)∨q=bb)→q≠pb:=by
  rintro q ((hq|hq)|rfl) rfl
  ·exact own_not hlast.phis h.box (Ne.symm h.kind.2.1) hq
  ·exact own_not hlast.ins h.box (Ne.symm h.kind.2.2) hq
  ·exact own_not h.row h.box (Ne.symm h.kind.1) rfl
 refine⟨h.box.turn t3 fun hq=>hpb pb hq rfl,?_,fun i c hcc hi=>?_,fun c hcc=>?_,t3.toSince h.old fun q hq hr=>?_,fun q hq=>?_,h.kind⟩
 ·exact hset hrow1
 ·rw[hlen]at hi
  rw[List.getElem?_set_ne (by omega)]at hcc
  exact (h.early i c hcc hi).turn t3 hR4 hS2
 ·rw[hlen,hb']at hcc
  obtain rfl:=Option.some.inj hcc
  exact⟨own_turn hp t2 fun q hq hr=>by subst hr;exact own_not hp hbb1 (by decide) hq,fun p hpp=>(hphi p hpp).turn t3 hR4 hS2,own_turn hi t2 fun q hq hr=>by subst hr;exact own_not hi hbb1 (by decide) hq,fun x hx=>(hins x hx).turn t3 hR4 hS2,hterm.turn t3 hR4 hS2⟩
 ·have:=h.new q (hR3 q hr);omega
 ·rcases hS q hq with h1|h1
  ·exact h.new q h1
  ·have:=h.old.size;omega
theorem PaM.upd (h:PaM T w0 pb tl params pl e bv bl w) {b b':FBlk} (hb:bl[bl.length-1]? = some b) {bb cap:Nat} (hbv:bv=.slice (some ⟨bb,0,none⟩) bl.length cap) {w1:World} (t:Turn (fun q=>b.phv.ownBlock=some q∨b.inv.ownBlock=some q) w w1) (u:Nat) (hu:u<6) (v:Value) (hc:fbcells b'=(fbcells b).set u v)
  (hp:OwnRow fpcells 2 60 0 w1 b'.phv b'.phis) (hi:OwnRow ficells 5 51 0 w1 b'.inv b'.ins) (np:NewOr w b.phv b'.phv) (ni:NewOr w b.inv b'.inv) (hphi:∀ p∈b'.phis,PhiOk (PaS w0 pb bv bl) w p) (hins:∀ x∈b'.ins,InsOk (PaS w0 pb bv bl) w x) (hterm:TermOk (PaS w0 pb bv bl) w b'.term) :
  PaM T w0 pb tl params pl e bv (bl.set (bl.length-1) b') (w1.setCell ⟨bb,(bl.length-1)*6+u,none⟩ v):=by
 subst hbv
 refine h.updG hb rfl t ((Turn.refl (fun q=>q=bb) w1).setCell (p:=⟨bb,(bl.length-1)*6+u,none⟩) rfl v) (fun hrow1=>?_) hp hi np ni hphi hins hterm
 have h9:=own_setCell hrow1 ((bl.length-1)*6+u) v
 rw[flat_set fbcells 6 fbcells_len bl (bl.length-1) u b b' v hb hu hc]at h9
 unfold OwnRow
 rw[List.length_set]
 exact h9
theorem BkLast.stay {S S' R:Nat→Prop} {b : FBlk} (h:BkLast S w b) (t:Turn R w w') (hR:∀ q,R q→S q) (hS:∀ q,S' q→S q∨w.heap.size≤q) (h1:∀ q,b.phv.ownBlock=some q→¬ R q∧¬ S' q) (h2:∀ q,b.inv.ownBlock=some q→¬ R q∧¬ S' q):BkStay S' w' b:=by
 have k1:=own_turn h.phis t fun q hq=>(h1 q hq).1
 have k2:=own_turn h.ins t fun q hq=>(h2 q hq).1
 exact⟨row_of_own fpcells_len k1 fun p hp=>(h.phi p hp).turn t hR hS,fun q hq=>⟨(h1 q hq).2,(World.ownsRow.lt k1 q hq).2⟩,row_of_own ficells_len k2 fun x hx=>(h.inx x hx).turn t hR hS,fun q hq=>⟨(h2 q hq).2,(World.ownsRow.lt k2 q hq).2⟩,h.term.turn t hR hS⟩
def fbZero:FBlk:=⟨[],.slice none 0 0,[],.slice none 0 0,⟨0,[],.slice none 0 0,[],.slice none 0 0,0⟩⟩
theorem PaM.addBlock (h:PaM T w0 pb tl params pl e bv bl w) {bv':Value} {w1:World} (hown:OwnRow fbcells 6 57 0 w1 bv' (bl++[fbZero])) (t:Turn (fun q=>bv.ownBlock=some q) w w1) (hn:NewOr w bv bv') :
  PaM T w0 pb tl params pl e bv' (bl++[fbZero]) (w1.setCell ⟨pb,1,none⟩ bv'):=by
 have hbox1:=h.box.turn t fun hq=>own_not h.row h.box (Ne.symm h.kind.1) hq
 have t2:Turn (fun q=>q=pb) w1 (w1.setCell ⟨pb,1,none⟩ bv'):=(Turn.refl (fun q=>q=pb) w1).setCell (p:=⟨pb,1,none⟩) rfl bv'
 have t3:Turn (fun q=>bv.ownBlock=some q∨q=pb) w (w1.setCell ⟨pb,1,none⟩ bv'):=(t.mono fun _ _ h=>.inl h).trans (t2.mono fun _ _ h=>.inr h)
 have hR3:∀ q,(bv.ownBlock=some q∨q=pb)→PaOwn pb bv bl q:=fun q hq=>by
  rcases hq with hq|rfl
  ·exact .inr (.inl hq)
  ·exact .inl rfl
 have hl:(bl++[fbZero]).length=bl.length+1:=by simp
 have hlz:(bl++[fbZero])[(bl++[fbZero]).length-1]? = some fbZero:=by simp
 have hS:∀ q,PaOwn pb bv' (bl++[fbZero]) q→PaOwn pb bv bl q∨w.heap.size≤q:=by
  rintro q (rfl|hq|⟨c,hcc,hq⟩)
  ·exact .inl (.inl rfl)
  ·rcases hn q hq with h1|h1
   ·exact .inl (.inr (.inl h1))
   ·exact .inr h1
  ·rw[hlz]at hcc
   obtain rfl:=Option.some.inj hcc
   rcases hq with hq|hq<;>cases hq
 have hapart:∀ (f:Value) (U:TypeId) (sz n:Nat) (xs:List Value),w.ownsRow 0 U sz f n xs→U≠57→U≠T→∀ q,f.ownBlock=some q→¬ (bv.ownBlock=some q∨q=pb)∧¬ PaOwn pb bv' (bl++[fbZero]) q:=by
  intro f U sz n xs hf hU1 hU2 q hq
  have a1:¬ (bv.ownBlock=some q∨q=pb):=by
   rintro (hr|rfl)
   ·exact own_ne hf h.row hU1 q hq hr
   ·exact own_not hf h.box hU2 hq
  refine⟨a1,?_⟩
  rintro (rfl|hr|⟨c,hcc,hr⟩)
  ·exact a1 (.inr rfl)
  ·rcases hn q hr with h1|h1
   ·exact a1 (.inl h1)
   ·have:=(World.ownsRow.lt hf q hq).2;omega
  ·rw[hlz]at hcc
   obtain rfl:=Option.some.inj hcc
   rcases hr with hr|hr<;>cases hr
 have hS2:∀ q,PaS w0 pb bv' (bl++[fbZero]) q→PaS w0 pb bv bl q∨w.heap.size≤q:=fun q hq=>by
  rcases hq with hq|hq
  ·rcases hS q hq with h1|h1
   ·exact .inl (.inl h1)
   ·exact .inr h1
  ·exact .inl (.inr hq)
 have hR4:∀ q,(bv.ownBlock=some q∨q=pb)→PaS w0 pb bv bl q:=fun q hq=>.inl (hR3 q hq)
 have hap2:∀ {q : Nat} {x : Prop},x∧¬ PaOwn pb bv' (bl++[fbZero]) q→PaOwn pb bv bl q→x∧¬ PaS w0 pb bv' (bl++[fbZero]) q:=fun h1 h2=>⟨h1.1,fun h3=>by
  rcases h3 with h3|h3
  ·exact h1.2 h3
  ·have:=h.new _ h2;omega⟩
 have hbx:=hbox1.set 1 bv'
 rw[List.setIfInBounds_toArray]at hbx
 refine⟨hbx,own_turn hown t2 fun q hq hr=>by subst hr;exact own_not hown hbox1 (Ne.symm h.kind.1) hq,fun i c hcc hi=>?_,fun c hcc=>?_,t3.toSince h.old fun q hq hr=>?_,fun q hq=>?_,h.kind⟩
 ·rw[hl]at hi
  rw[List.getElem?_append_left (by omega)]at hcc
  by_cases hi2:i+1<bl.length
  ·exact (h.early i c hcc hi2).turn t3 hR4 hS2
  ·obtain rfl:i=bl.length-1:=by omega
   have hc:=h.last c hcc
   exact hc.stay t3 hR4 hS2 (fun q hq=>hap2 (hapart _ _ _ _ _ hc.phis (by decide) (Ne.symm h.kind.2.1) q hq) (.inr (.inr ⟨c,hcc,.inl hq⟩))) (fun q hq=>hap2 (hapart _ _ _ _ _ hc.ins (by decide) (Ne.symm h.kind.2.2) q hq) (.inr (.inr ⟨c,hcc,.inr hq⟩)))
 ·rw[hlz]at hcc
  obtain rfl:=Option.some.inj hcc
  exact⟨OwnRow.nil _ _ _ _ _,fun p hp=>(by cases hp),OwnRow.nil _ _ _ _ _,fun x hx=>(by cases hx),⟨⟨.nil _ _,.nil _ _⟩,Stays.nil _ _,Stays.nil _ _⟩⟩
 ·have:=h.new q (hR3 q hr);omega
 ·rcases hS q hq with h1|h1
  ·exact h.new q h1
  ·have:=h.old.size;omega
end
end Go.Proofs.YtmhojfpidedjeaaGreatDoor
