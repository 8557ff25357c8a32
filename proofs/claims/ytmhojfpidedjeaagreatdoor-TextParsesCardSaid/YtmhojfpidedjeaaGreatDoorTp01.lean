import Derived.Test.YtmhojfpidedjeaaGreatDoorTp00
namespace Go.Proofs.YtmhojfpidedjeaaGreatDoor
open Go.RowKit
set_option linter.unusedVariables false
structure Turn (S:Nat→Prop) (w w':World):Prop where
 os:w'.os=w.os
 tape:w'.tape=w.tape
 output:w'.output=w.output
 size:w.heap.size≤w'.heap.size
 block:∀ k,k<w.heap.size→¬ S k→w'.heap[k]? = w.heap[k]?
theorem Turn.refl (S:Nat→Prop) (w:World):Turn S w w:=⟨rfl,rfl,rfl,Nat.le_refl _,fun _ _ _=>rfl⟩
theorem Turn.trans {S : Nat→Prop} {a b c:World} (h:Turn S a b) (k:Turn S b c):Turn S a c:=
 ⟨k.os.trans h.os,k.tape.trans h.tape,k.output.trans h.output,Nat.le_trans h.size k.size,fun i hi hn=>(k.block i (Nat.lt_of_lt_of_le hi h.size) hn).trans (h.block i hi hn)⟩
theorem Turn.mono {S S':Nat→Prop} {a b:World} (h:Turn S a b) (hs:∀ k,k<a.heap.size→S k→S' k):Turn S' a b:=
 ⟨h.os,h.tape,h.output,h.size,fun i hi hn=>h.block i hi fun ha=>hn (hs i hi ha)⟩
theorem Turn.since {S : Nat→Prop} {a b:World} (h:Since a b):Turn S a b:=⟨h.os,h.tape,h.output,h.size,fun i hi _=>Below.block h i hi⟩
theorem Turn.setCell {S : Nat→Prop} {a b:World} (h:Turn S a b) {p : Addr} (hp:S p.block) (v:Value):Turn S a (b.setCell p v):=
 ⟨h.os,h.tape,h.output,by simpa [World.setCell]using h.size,fun i hi hn=>by
  rw[Below.heap_setCell _ _ _ _ (fun e=>hn (by rw[e];exact hp))];exact h.block i hi hn⟩
theorem Turn.alloc {S : Nat→Prop} {a b:World} (h:Turn S a b) (o:Obj):Turn S a (b.alloc o):=h.trans (Turn.since ((Since.refl b).alloc o))
theorem Turn.toSince {S : Nat→Prop} {w0 a b:World} (h:Turn S a b) (h0:Since w0 a) (hs:∀ k,k<w0.heap.size→¬ S k):Since w0 b:=
 ⟨h.os.trans h0.os,h.tape.trans h0.tape,h.output.trans h0.output,Nat.le_trans h0.size h.size,fun i hi=>(h.block i (Nat.lt_of_lt_of_le hi h0.size) (hs i hi)).trans (h0.block i hi)⟩
theorem Turn.cell {S : Nat→Prop} {a b:World} (h:Turn S a b) {p : Addr} (hp:p.block<a.heap.size) (hn:¬ S p.block):b.cell? p=a.cell? p:=World.cell?_of_block (h.block p.block hp hn)
theorem ZN.turn {S : Nat→Prop} {k : IntKind} {w w':World} {v : Value} {l : List Int} (h:ZN k w v l) (t:Turn S w w') (hn:∀ q,v.ownBlock=some q→¬ S q):ZN k w' v l:=by
 rcases h with h|⟨b,off,cap,h1,h2,h3,h4,h5⟩
 ·exact .inl h
 ·exact .inr ⟨b,off,cap,h1,h2,h3,Nat.lt_of_lt_of_le h4 t.size,fun j n hj=>by rw[t.cell (p:=⟨b,off+j,none⟩) h4 (hn b (by rw[h1];rfl))];exact h5 j n hj⟩
theorem Zc3 {w w':World} {row:Option Nat} (h:w.grownBy w' row):Turn (fun k=>row=some k) w w':=⟨h.os,h.tape,h.output,h.size,fun k hk hn=>h.block k hk (fun e=>hn e.symm)⟩
theorem Zi {S : Nat→Prop} {w w':World} {base:Nat} {e : TypeId} {size n:Nat} {v : Value} {xs:List Value} (h:w.ownsRow base e size v n xs) (t:Turn S w w') (hn:∀ q,v.ownBlock=some q→¬ S q):w'.ownsRow base e size v n xs:=by
 obtain⟨h0,h|⟨g,cap,cur,h1,h2,h3,h4⟩⟩:=h
 ·exact⟨h0,.inl h⟩
 ·exact⟨h0,.inr ⟨g,cap,cur,h1,h2,(t.block g (Array.getElem?_eq_some_iff.1 h3).1 (hn g (by rw[h1];rfl))).trans h3,h4⟩⟩
theorem Z9 {w : World} {b1 b2:Nat} {e1 e2:TypeId} {s1 s2 n1 n2:Nat} {v1 v2:Value} {x1 x2:List Value} (h1:w.ownsRow b1 e1 s1 v1 n1 x1) (h2:w.ownsRow b2 e2 s2 v2 n2 x2) (hd:e1≠e2) (q:Nat) (hq:v1.ownBlock=some q):¬ v2.ownBlock=some q:=by
 intro ha;obtain⟨_,⟨h,_⟩|⟨g,_,_,hv,_,hg,_⟩⟩:=h1
 ·rw[h]at hq;cases hq
 obtain⟨_,⟨h,_⟩|⟨g',_,_,hc,_,hb,_⟩⟩:=h2
 ·rw[h]at ha;cases ha
 rw[hv]at hq;rw[hc]at ha;have a:g=q:=Option.some.inj hq;have b:g'=q:=Option.some.inj ha;rw[a]at hg;rw[b]at hb;rw[hg]at hb;simp only[Option.some.injEq,Obj.cells.injEq]at hb;exact hd hb.2.1
theorem ZbC {w : World} {b b':Nat} {e : TypeId} {size n:Nat} {v : Value} {xs:List Value} (h:w.ownsRow b e size v n xs) (hb:b'≤b):w.ownsRow b' e size v n xs:=by
 obtain⟨h0,h|⟨g,cap,cur,h1,h2,h3⟩⟩:=h
 ·exact⟨h0,.inl h⟩
 ·exact⟨h0,.inr ⟨g,cap,cur,h1,Nat.le_trans hb h2,h3⟩⟩
theorem Xz {w : World} {b : Nat} {e : TypeId} {size n:Nat} {v : Value} {xs:List Value} (h:w.ownsRow b e size v n xs) {q : Nat} (hq:v.ownBlock=some q):∃ cur,w.heap[q]? = some (.cells cur e (0,0)):=by
 obtain⟨_,⟨hv,_⟩|⟨g,_,cur,hv,_,hg,_⟩⟩:=h
 ·rw[hv]at hq;cases hq
 ·rw[hv]at hq;obtain rfl:g=q:=Option.some.inj hq;exact⟨cur,hg⟩
theorem HeapIs.turn {S : Nat→Prop} {w w':World} {q : Nat} {cs:Array Value} {T : TypeId} (h:HeapIs w q cs T) (t:Turn S w w') (hn:¬ S q):HeapIs w' q cs T:=(t.block q h.lt hn).trans h
theorem Zk {w : World} {b : Nat} {e : TypeId} {size n:Nat} {v : Value} {xs:List Value} (h:w.ownsRow b e size v n xs) {q : Nat} {cs:Array Value} {T : TypeId} (hb:HeapIs w q cs T) (hT:e≠T):¬ v.ownBlock=some q:=by
 intro hq;obtain⟨cur,hc⟩:=Xz h hq;rw[show w.heap[q]? = _ from hb]at hc
 simp only[Option.some.injEq,Obj.cells.injEq]at hc;exact hT hc.2.1.symm
theorem Yf {α:Type} {f : α→List Value} {sz:Nat} {p : World→α→Prop} (hf:∀ x,(f x).length=sz) {e : TypeId} {base:Nat} {w : World} {v : Value} {l : List α} (h:OwnRow f sz e base w v l) (hp:∀ x∈l,p w x):RowIn f sz p w v l:=by
 rcases h.cells hf with ⟨h1,h2⟩|⟨g,cap,hv,hc,hm,_,hg,ha⟩
 ·exact .inl ⟨_,h1,h2⟩
 ·exact .inr ⟨g,0,cap,hv,hc,hm,hg,fun j x hj=>⟨fun t ht=>by rw[Nat.zero_add];exact ha j t x hj ht,hp x (List.mem_of_getElem? hj)⟩⟩
def ZP (w:World) (v v':Value):Prop:=∀ q,v'.ownBlock=some q→v.ownBlock=some q∨w.heap.size≤q
theorem Qn {P : Program} (w:World) (base:Nat) (t ty e:TypeId) (i:TypeInfo) (z:Value) (size bytes:Nat) (ht:P.underlying t=some (.slice e)) (hi:P.info? e=some i) (hz:i.zero=some z)
  (he:i.size=size) (hm:i.bytes=bytes) (hx:z.cells.size=size) (hy:0<size)
  (v:Value) (n:Nat) (xs:List Value) (hk:w.ownsRow base e size v n xs)
  (a:Addr) (m c:Nat) (news:List Value) (hl:news.length=m*size) (hc:∀ j u,news[j]? = some u→w.cell? (a.add j)=some u) (h1:∀ u∈news,u.oneCell'=true)
  (ho:n+m≤maxLen) (hd:(n+m)*bytes≤140737488355328) (hu:base≤w.heap.size) :
  ∃ v' w',(Builtin.append_ #[t,t] ty #[v,.slice (some a) m c]).run P w=.ok v' w'∧w'.ownsRow base e size v' (n+m) (xs++news)∧w.grownBy w' v.ownBlock∧ZP w v v':=by
 obtain⟨v',w',hr,h2,h3,_⟩:=run_append_own w base t ty e i z size bytes ht hi hz he hm hx hy v n xs hk a m c news hl hc h1 ho hd hu;refine⟨v',w',hr,h2,h3,?_⟩;obtain⟨hh,⟨hv,hn⟩|⟨g,cap,cur,hv,hb,hg,hD,hE,hA,hp⟩⟩:=hk
 ·obtain⟨v2,w2,ha,hG,_,_⟩:=run_append_own (P:=P) w w.heap.size t ty e i z size bytes ht hi hz he hm hx hy v n xs ⟨hh,.inl ⟨hv,hn⟩⟩ a m c news hl hc h1 ho hd (Nat.le_refl _);rw[hr]at ha
  cases ha
  obtain⟨_,⟨hj,_⟩|⟨g2,_,_,hj,hF,_⟩⟩:=hG
  ·intro q hq;rw[hj]at hq;cases hq
  ·intro q hq;rw[hj]at hq;cases hq;exact .inr hF
 ·subst hv;subst he;by_cases hf:n+m≤cap
  ·have hB:n*i.size+news.length≤cur.size:=by rw[hl,hA,←Nat.add_mul];exact Nat.mul_le_mul_right _ hf
   have ha:=run_append_room (P:=P) w t ty e i ht hi g n cap cur hg a m c news hl hc h1 hf hB;rw[hr]at ha
   cases ha
   exact fun q hq=>.inl hq
  ·have hs:∀ j u,xs[j]? = some u→w.cell? ((⟨g,0,none⟩:Addr).add j)=some u:=World.ownsRow.cells (show w.ownsRow base e i.size (.slice (some ⟨g,0,none⟩) n cap) n xs from⟨hh,.inr ⟨g,cap,cur,rfl,hb,hg,hD,hE,hA,hp⟩⟩) (g:=g) rfl
   have hC:n+m≤9223372036854775807:=by simp only[maxLen]at ho;omega
   have ha:=run_append_grow (P:=P) w t ty e i z ht hi hz ⟨g,0,none⟩ n cap xs hh hs a m c news hl hc (by omega) (by omega) (growslice_fits (by omega) (by rw[hm];exact hd));rw[hr]at ha
   cases ha
   intro q hq
   cases hq
   exact .inr (Nat.le_refl _)
theorem XR {P : Program} {w : World} {ops:Array Oper} {rest:List Oper} {o : Oper} {a : Act} {Q : Exit→Act→World→Prop} (hh:o.guard=none) (s x:Operand) (t:TypeId)
  (ho:o.op=.call { callee:=.builtin .append,args:=#[s,x],argTypes:=#[t,t] })
  (base:Nat) (e:TypeId) (i:TypeInfo) (z:Value) (size bytes:Nat) (ht:P.underlying t=some (.slice e)) (hi:P.info? e=some i) (hz:i.zero=some z)
  (hb:i.size=size) (hj:i.bytes=bytes) (hf:z.cells.size=size) (hg:0<size)
  (v:Value) (n:Nat) (xs:List Value) (hs:a.eval s=v) (he:w.ownsRow base e size v n xs)
  (ad:Addr) (m c:Nat) (news:List Value) (hx:a.eval x=.slice (some ad) m c) (hl:news.length=m*size) (hc:∀ j u,news[j]? = some u→w.cell? (ad.add j)=some u) (h1:∀ u∈news,u.oneCell'=true)
  (hk:n+m≤maxLen) (ha:(n+m)*bytes≤140737488355328) (hd:base≤w.heap.size)
  (h:∀ v' w',w'.ownsRow base e size v' (n+m) (xs++news)→Turn (fun q=>v.ownBlock=some q) w w'→ZP w v v'→wpList P ops Q rest (a.put o.dst v') w'):wpList P ops Q (o::rest) a w:=by
 refine wpList_plain hh fun _ hK=>?_
 obtain⟨v',w',hr,h2,h3,h4⟩:=Qn (P:=P) w base t o.type e i z size bytes ht hi hz hb hj hf hg v n xs he ad m c news hl hc h1 hk ha hd;unfold Oper.wp execOp;simp only[ho,resolve,invoke,builtin,Sem.run_bind,Sem.run_pure,Result.andThen_ok,List.map_toArray,List.map_cons,List.map_nil,hs,hx,hr];exact hK _ _ (h v' w' h2 (Zc3 h3) h4)
theorem Zf {α:Type} {P : Program} {base:Nat} {w : World} {ops:Array Oper} {rest:List Oper} {o : Oper} {a : Act} {Q : Exit→Act→World→Prop} (f:α→List Value) (sz:Nat) (hf:∀ x,(f x).length=sz) (hl:0<sz) (hn:o.guard=none) (s x:Operand) (t:TypeId)
  (ho:o.op=.call { callee:=.builtin .append,args:=#[s,x],argTypes:=#[t,t] })
  (e:TypeId) (z:Value) (bytes:Nat) (ht:P.underlying t=some (.slice e)) (hc:(P.info? e).map (fun i=>(i.zero,i.size,i.bytes))=some (some z,sz,bytes)) (hz:z.cells.size=sz)
  (v:Value) (l:List α) (y:α) (b cap:Nat) (t2:TypeId) (hs:a.eval s=v) (hx:a.eval x=.slice (some ⟨b,0,none⟩) 1 cap) (he:OwnRow f sz e base w v l) (hb:w.heap[b]? = some (.cells (f y).toArray t2 (0,0))) (h1:∀ u∈f y,u.oneCell'=true)
  (hm:l.length+1≤maxLen) (hg:(l.length+1)*bytes≤140737488355328) (hd:base≤w.heap.size)
  (h:∀ v' w',OwnRow f sz e base w' v' (l++[y])→Turn (fun k=>v.ownBlock=some k) w w'→ZP w v v'→wpList P ops Q rest (a.put o.dst v') w'):wpList P ops Q (o::rest) a w:=by
 obtain⟨i,hi,hk,hj,hh⟩:=info_parts hc;refine XR hn s x t ho base e i z sz bytes ht hi hk hj hh hz hl v _ _ hs he ⟨b,0,none⟩ 1 cap (f y) hx (by rw[hf,Nat.one_mul]) ?_ h1 hm hg hd ?_
 ·intro j u hu;have e2:(⟨b,0,none⟩:Addr).add j=⟨b,j,none⟩:=by
   unfold Addr.add;split
   ·rename_i h0;subst h0;rfl
   ·simp
  rw[e2];simp[World.cell?,hb,hu]
 ·intro v' w' ha t h4;refine h v' w' ?_ t h4;unfold OwnRow;rw[List.length_append,List.flatMap_append];simpa using ha
theorem Zl {P : Program} {base:Nat} {w : World} {ops:Array Oper} {rest:List Oper} {o : Oper} {a : Act} {Q : Exit→Act→World→Prop} (k:IntKind) (hf:o.guard=none) (s x:Operand) (t:TypeId)
  (ho:o.op=.call { callee:=.builtin .append,args:=#[s,x],argTypes:=#[t,t] })
  (e:TypeId) (z:Value) (bytes:Nat) (ht:P.underlying t=some (.slice e)) (hg:(P.info? e).map (fun i=>(i.zero,i.size,i.bytes))=some (some z,1,bytes)) (hz:z.cells.size=1) (hm:bytes≤8)
  (v xv:Value) (l1 l2:List Int) (hs:a.eval s=v) (hx:a.eval x=xv) (hc:w.ownsRow base e 1 v l1.length (l1.map (Value.int k))) (hp:ZN k w xv l2)
  (hd:l1.length+l2.length≤1000000) (he:base≤w.heap.size)
  (h:∀ v' w',w'.ownsRow base e 1 v' (l1++l2).length ((l1++l2).map (Value.int k))→Turn (fun q=>v.ownBlock=some q) w w'→ZP w v v'→wpList P ops Q rest (a.put o.dst v') w'):wpList P ops Q (o::rest) a w:=by
 obtain⟨i,hi,hl,hk,hj⟩:=info_parts hg;rcases hp with ⟨ad,hv,rfl⟩|⟨b,off,cap,hv,hr,_,hb,hh⟩
 ·subst hv
  cases ad with
  | none =>
   refine wpList_append_own_none hf s x t ho base e i 1 ht hi v _ _ hs hc hx (h v w ?_ (Turn.refl _ _) fun q hq=>.inl hq)
   simpa using hc
  | some ad =>
   refine XR hf s x t ho base e i z 1 bytes ht hi hl hk hj hz (by decide) v _ _ hs hc ad 0 0 [] hx rfl (fun j u hu=>by cases hu) (fun u hu=>by cases hu) (by unfold maxLen;simp at hd;omega) ?_ he ?_
   ·have:(l1.length+0)*bytes≤1000000*8:=Nat.mul_le_mul (by simpa using hd) hm;omega
   ·intro v' w' ha t h4;exact h v' w' (by simpa using ha) t h4
 ·subst hv;refine XR hf s x t ho base e i z 1 bytes ht hi hl hk hj hz (by decide) v _ _ hs hc ⟨b,off,none⟩ l2.length cap (l2.map (Value.int k)) hx (by simp) ?_ ?_ (by unfold maxLen;omega) ?_ he ?_
  ·intro j u hu;rw[List.getElem?_map]at hu;obtain⟨n,hn,rfl⟩:=Option.map_eq_some_iff.1 hu;have:=hh j n hn;unfold Addr.add;split
   ·rename_i h0;subst h0;simpa using this
   ·exact this
  ·intro u hu;obtain⟨n,_,rfl⟩:=List.mem_map.1 hu;rfl
  ·have:(l1.length+l2.length)*bytes≤1000000*8:=Nat.mul_le_mul hd hm;omega
  ·intro v' w' ha t h4;exact h v' w' (by simpa using ha) t h4
theorem RowIn.turn {α:Type} {f : α→List Value} {sz:Nat} {p : World→α→Prop} {S : Nat→Prop} {w w':World} {v : Value} {l : List α} (h:RowIn f sz p w v l) (t:Turn S w w') (hn:∀ q,v.ownBlock=some q→¬ S q) (hp:∀ x∈l,p w x→p w' x):RowIn f sz p w' v l:=by
 rcases h with h|⟨b,off,cap,h1,h2,h3,h4,h5⟩
 ·exact .inl h
 ·exact .inr ⟨b,off,cap,h1,h2,h3,Nat.lt_of_lt_of_le h4 t.size,fun j x hj=>⟨fun t2 ht=>by rw[t.cell (p:=⟨b,off+j*sz+t2,none⟩) h4 (hn b (by rw[h1];rfl))];exact (h5 j x hj).1 t2 ht,hp x (List.mem_of_getElem? hj) (h5 j x hj).2⟩⟩
theorem Zaa {b1 b2 sz n:Nat} {e : TypeId} {w : World} {v : Value} {xs:List Value} (h:w.ownsRow b1 e sz v n xs) (hb:b2≤b1):w.ownsRow b2 e sz v n xs:=by
 obtain⟨h0,h1|⟨g,c,u,h1,h2,h3⟩⟩:=h
 ·exact⟨h0,.inl h1⟩
 ·exact⟨h0,.inr ⟨g,c,u,h1,Nat.le_trans hb h2,h3⟩⟩
theorem XG {w : World} {base:Nat} {e : TypeId} {sz n g cap:Nat} {xs:List Value} (h:w.ownsRow base e sz (.slice (some ⟨g,0,none⟩) n cap) n xs) (j:Nat) (y:Value):(w.setCell ⟨g,j,none⟩ y).ownsRow base e sz (.slice (some ⟨g,0,none⟩) n cap) n (xs.set j y):=by
 obtain⟨h0,⟨hv,_⟩|⟨g2,cap2,cur,hv,h2,hg,h4,h5,h6,h7⟩⟩:=h
 ·cases hv
 ·cases hv
  have h1:=HeapIs.set (show HeapIs w g cur e from hg) j y;refine⟨by rw[List.length_set];exact h0,.inr ⟨g,cap,cur.setIfInBounds j y,rfl,h2,h1,h4,h5,by rw[Array.size_setIfInBounds];exact h6,?_⟩⟩
  rw[Array.toList_setIfInBounds,List.take_set,h7]
def Stays (S:Nat→Prop) (w:World) (v:Value):Prop:=∀ q,v.ownBlock=some q→¬ S q∧q<w.heap.size
theorem Stays.mono {S S':Nat→Prop} {w w':World} {v : Value} (h:Stays S w v) (hs:∀ q,S' q→S q∨w.heap.size≤q) (hz:w.heap.size≤w'.heap.size):Stays S' w' v:=fun q hq=>by
 obtain⟨h1,h2⟩:=h q hq
 refine⟨fun h3=>?_,by omega⟩
 rcases hs q h3 with h4|h4
 ·exact h1 h4
 ·omega
theorem Stays.nil (S:Nat→Prop) (w:World):Stays S w (.slice none 0 0):=fun q hq=>by cases hq
theorem Y4 {w : World} {a b:Nat} {cs ds:Array Value} {T U:TypeId} (h1:HeapIs w a cs T) (h2:HeapIs w b ds U) (hT:T≠U):a≠b:=by
 rintro rfl;unfold HeapIs at h1 h2;rw[h1]at h2;simp only[Option.some.injEq,Obj.cells.injEq]at h2;exact hT h2.2.1
end Go.Proofs.YtmhojfpidedjeaaGreatDoor
