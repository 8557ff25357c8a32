/- Rows of the call's own: append tells which block the row lies in then; rows that others read. Functions as data that lie in memory: each slice's value stands beside its list. append to a row of no cells: what comes is a row of the call's own, and nothing that was there turns. -/
import Derived.Test.YtkpbmbhejpmboaaPkB03
import Derived.Test.YtkpbmbhejpmboaaPkB04
import Derived.Test.YtkpbmbhejpmboaaPkB05
import Derived.Laws.AppendOwnNone
namespace Go.Proofs.Ytkpbmbhejpmboaa
open Go.RowKit
set_option linter.unusedVariables false
def NewOr (w:World) (v v':Value):Prop:=∀ q,v'.ownBlock=some q→v.ownBlock=some q∨w.heap.size≤q
theorem run_append_own2 {P : Program} (w:World) (base:Nat) (t ty e:TypeId) (i:TypeInfo) (z:Value) (size bytes:Nat) (ht:P.underlying t=some (.slice e)) (hi:P.info? e=some i) (hz:i.zero=some z)
  (hsize:i.size=size) (hby:i.bytes=bytes) (hzs:z.cells.size=size) (hsz:0<size)
  (v:Value) (n:Nat) (xs:List Value) (hown:w.ownsRow base e size v n xs)
  (a:Addr) (m c:Nat) (news:List Value) (hl:news.length=m*size) (hnews:∀ j u,news[j]? = some u→w.cell? (a.add j)=some u) (h1:∀ u∈news,u.oneCell'=true)
  (h63:n+m≤maxLen) (hbytes:(n+m)*bytes≤140737488355328) (hbase:base≤w.heap.size) :
  ∃ v' w',(Builtin.append_ #[t,t] ty #[v,.slice (some a) m c]).run P w=.ok v' w'∧w'.ownsRow base e size v' (n+m) (xs++news)∧w.grownBy w' v.ownBlock∧NewOr w v v':=by
 obtain⟨v',w',hr,h2,h3,_⟩:=run_append_own w base t ty e i z size bytes ht hi hz hsize hby hzs hsz v n xs hown a m c news hl hnews h1 h63 hbytes hbase
 refine⟨v',w',hr,h2,h3,?_⟩
 obtain⟨hx0,⟨hv,hn⟩|⟨g,cap,cur,hv,hb,hg,hnc,hcm,hcs,htake⟩⟩:=hown
 ·obtain⟨v2,w2,hr2,h22,_,_⟩:=run_append_own (P:=P) w w.heap.size t ty e i z size bytes ht hi hz hsize hby hzs hsz v n xs ⟨hx0,.inl ⟨hv,hn⟩⟩ a m c news hl hnews h1 h63 hbytes (Nat.le_refl _)
  rw[hr]at hr2
  cases hr2
  obtain⟨_,⟨hv2,_⟩|⟨g2,_,_,hv2,hb2,_⟩⟩:=h22
  ·intro q hq;rw[hv2]at hq;cases hq
  ·intro q hq;rw[hv2]at hq;cases hq;exact .inr hb2
 ·subst hv
  subst hsize
  by_cases hroom:n+m≤cap
  ·have hfit:n*i.size+news.length≤cur.size:=by rw[hl,hcs,←Nat.add_mul];exact Nat.mul_le_mul_right _ hroom
   have hr2:=run_append_room (P:=P) w t ty e i ht hi g n cap cur hg a m c news hl hnews h1 hroom hfit
   rw[hr]at hr2
   cases hr2
   exact fun q hq=>.inl hq
  ·have holds:∀ j u,xs[j]? = some u→w.cell? ((⟨g,0,none⟩:Addr).add j)=some u:=World.ownsRow.cells (show w.ownsRow base e i.size (.slice (some ⟨g,0,none⟩) n cap) n xs from⟨hx0,.inr ⟨g,cap,cur,rfl,hb,hg,hnc,hcm,hcs,htake⟩⟩) (g:=g) rfl
   have hsmall:n+m≤9223372036854775807:=by simp only[maxLen]at h63;omega
   have hr2:=run_append_grow (P:=P) w t ty e i z ht hi hz ⟨g,0,none⟩ n cap xs hx0 holds a m c news hl hnews (by omega) (by omega) (growslice_fits (by omega) (by rw[hby];exact hbytes))
   rw[hr]at hr2
   cases hr2
   intro q hq
   cases hq
   exact .inr (Nat.le_refl _)
theorem wpList_append_own2 {P : Program} {w : World} {ops:Array Oper} {rest:List Oper} {o : Oper} {a : Act} {Q : Exit→Act→World→Prop} (hgd:o.guard=none) (s x:Operand) (t:TypeId)
  (ho:o.op=.call { callee:=.builtin .append,args:=#[s,x],argTypes:=#[t,t] })
  (base:Nat) (e:TypeId) (i:TypeInfo) (z:Value) (size bytes:Nat) (ht:P.underlying t=some (.slice e)) (hi:P.info? e=some i) (hz:i.zero=some z)
  (hsize:i.size=size) (hby:i.bytes=bytes) (hzs:z.cells.size=size) (hsz:0<size)
  (v:Value) (n:Nat) (xs:List Value) (hs:a.eval s=v) (hown:w.ownsRow base e size v n xs)
  (ad:Addr) (m c:Nat) (news:List Value) (hx:a.eval x=.slice (some ad) m c) (hl:news.length=m*size) (hnews:∀ j u,news[j]? = some u→w.cell? (ad.add j)=some u) (h1:∀ u∈news,u.oneCell'=true)
  (h63:n+m≤maxLen) (hbytes:(n+m)*bytes≤140737488355328) (hbase:base≤w.heap.size)
  (h:∀ v' w',w'.ownsRow base e size v' (n+m) (xs++news)→Turn (fun q=>v.ownBlock=some q) w w'→NewOr w v v'→wpList P ops Q rest (a.put o.dst v') w'):wpList P ops Q (o::rest) a w:=by
 refine wpList_plain hgd fun _ hK=>?_
 obtain⟨v',w',hr,h2,h3,h4⟩:=run_append_own2 (P:=P) w base t o.type e i z size bytes ht hi hz hsize hby hzs hsz v n xs hown ad m c news hl hnews h1 h63 hbytes hbase
 unfold Oper.wp execOp
 simp only[ho,resolve,invoke,builtin,Sem.run_bind,Sem.run_pure,Result.andThen_ok,List.map_toArray,List.map_cons,List.map_nil,hs,hx,hr]
 exact hK _ _ (h v' w' h2 (turn_grown h3) h4)
theorem wpList_append_one2 {α:Type} {P : Program} {base:Nat} {w : World} {ops:Array Oper} {rest:List Oper} {o : Oper} {a : Act} {Q : Exit→Act→World→Prop} (f:α→List Value) (sz:Nat) (hf:∀ x,(f x).length=sz) (hsz:0<sz) (hgd:o.guard=none) (s x:Operand) (t:TypeId)
  (ho:o.op=.call { callee:=.builtin .append,args:=#[s,x],argTypes:=#[t,t] })
  (e:TypeId) (z:Value) (bytes:Nat) (ht:P.underlying t=some (.slice e)) (hinfo:(P.info? e).map (fun i=>(i.zero,i.size,i.bytes))=some (some z,sz,bytes)) (hz:z.cells.size=sz)
  (v:Value) (l:List α) (y:α) (b cap:Nat) (t2:TypeId) (hs:a.eval s=v) (hx:a.eval x=.slice (some ⟨b,0,none⟩) 1 cap) (hown:OwnRow f sz e base w v l) (hb:w.heap[b]? = some (.cells (f y).toArray t2 (0,0))) (h1:∀ u∈f y,u.oneCell'=true)
  (hm:l.length+1≤maxLen) (hlen:(l.length+1)*bytes≤140737488355328) (hbase:base≤w.heap.size)
  (h:∀ v' w',OwnRow f sz e base w' v' (l++[y])→Turn (fun k=>v.ownBlock=some k) w w'→NewOr w v v'→wpList P ops Q rest (a.put o.dst v') w'):wpList P ops Q (o::rest) a w:=by
 obtain⟨i,hi,hz0,hz1,hz2⟩:=info_parts hinfo
 refine wpList_append_own2 hgd s x t ho base e i z sz bytes ht hi hz0 hz1 hz2 hz hsz v _ _ hs hown ⟨b,0,none⟩ 1 cap (f y) hx (by rw[hf,Nat.one_mul]) ?_ h1 hm hlen hbase ?_
 ·intro j u hu
  have e2:(⟨b,0,none⟩:Addr).add j=⟨b,j,none⟩:=by
   unfold Addr.add;split
   ·rename_i h0;subst h0;rfl
   ·simp
  rw[e2]
  simp[World.cell?,hb,hu]
 ·intro v' w' hown' t h4
  refine h v' w' ?_ t h4
  unfold OwnRow
  rw[List.length_append,List.flatMap_append]
  simpa using hown'
theorem wpList_append_nums2 {P : Program} {base:Nat} {w : World} {ops:Array Oper} {rest:List Oper} {o : Oper} {a : Act} {Q : Exit→Act→World→Prop} (k:IntKind) (hgd:o.guard=none) (s x:Operand) (t:TypeId)
  (ho:o.op=.call { callee:=.builtin .append,args:=#[s,x],argTypes:=#[t,t] })
  (e:TypeId) (z:Value) (bytes:Nat) (ht:P.underlying t=some (.slice e)) (hinfo:(P.info? e).map (fun i=>(i.zero,i.size,i.bytes))=some (some z,1,bytes)) (hz:z.cells.size=1) (hby:bytes≤8)
  (v xv:Value) (l1 l2:List Int) (hs:a.eval s=v) (hx:a.eval x=xv) (hown:w.ownsRow base e 1 v l1.length (l1.map (Value.int k))) (hl2:Nums k w xv l2)
  (hlen:l1.length+l2.length≤1000000) (hbase:base≤w.heap.size)
  (h:∀ v' w',w'.ownsRow base e 1 v' (l1++l2).length ((l1++l2).map (Value.int k))→Turn (fun q=>v.ownBlock=some q) w w'→NewOr w v v'→wpList P ops Q rest (a.put o.dst v') w'):wpList P ops Q (o::rest) a w:=by
 obtain⟨i,hi,hz0,hz1,hz2⟩:=info_parts hinfo
 rcases hl2 with ⟨ad,hv,rfl⟩|⟨b,off,cap,hv,hcap,_,hb,hcell⟩
 ·subst hv
  cases ad with
  | none =>
   refine wpList_append_own_none hgd s x t ho base e i 1 ht hi v _ _ hs hown hx (h v w ?_ (Turn.refl _ _) fun q hq=>.inl hq)
   simpa using hown
  | some ad =>
   refine wpList_append_own2 hgd s x t ho base e i z 1 bytes ht hi hz0 hz1 hz2 hz (by decide) v _ _ hs hown ad 0 0 [] hx rfl (fun j u hu=>by cases hu) (fun u hu=>by cases hu) (by unfold maxLen;simp at hlen;omega) ?_ hbase ?_
   ·have:(l1.length+0)*bytes≤1000000*8:=Nat.mul_le_mul (by simpa using hlen) hby
    omega
   ·intro v' w' hown' t h4
    exact h v' w' (by simpa using hown') t h4
 ·subst hv
  refine wpList_append_own2 hgd s x t ho base e i z 1 bytes ht hi hz0 hz1 hz2 hz (by decide) v _ _ hs hown ⟨b,off,none⟩ l2.length cap (l2.map (Value.int k)) hx (by simp) ?_ ?_ (by unfold maxLen;omega) ?_ hbase ?_
  ·intro j u hu
   rw[List.getElem?_map]at hu
   obtain⟨n,hn,rfl⟩:=Option.map_eq_some_iff.1 hu
   have:=hcell j n hn
   unfold Addr.add
   split
   ·rename_i h0;subst h0;simpa using this
   ·exact this
  ·intro u hu
   obtain⟨n,_,rfl⟩:=List.mem_map.1 hu
   rfl
  ·have:(l1.length+l2.length)*bytes≤1000000*8:=Nat.mul_le_mul hlen hby
   omega
  ·intro v' w' hown' t h4
   exact h v' w' (by simpa using hown') t h4
theorem RowIn.turn {α:Type} {f : α→List Value} {sz:Nat} {p : World→α→Prop} {S : Nat→Prop} {w w':World} {v : Value} {l : List α} (h:RowIn f sz p w v l) (t:Turn S w w') (hn:∀ q,v.ownBlock=some q→¬ S q) (hp:∀ x∈l,p w x→p w' x):RowIn f sz p w' v l:=by
 rcases h with h|⟨b,off,cap,h1,h2,h3,h4,h5⟩
 ·exact .inl h
 ·exact .inr ⟨b,off,cap,h1,h2,h3,Nat.lt_of_lt_of_le h4 t.size,fun j x hj=>⟨fun t2 ht=>by rw[t.cell (p:=⟨b,off+j*sz+t2,none⟩) h4 (hn b (by rw[h1];rfl))];exact (h5 j x hj).1 t2 ht,hp x (List.mem_of_getElem? hj) (h5 j x hj).2⟩⟩
theorem row_own_in {α:Type} {f : α→List Value} {sz:Nat} (hf:∀ x,(f x).length=sz) {p : World→α→Prop} {e : TypeId} {base:Nat} {w : World} {v : Value} {l : List α} (h:OwnRow f sz e base w v l) (hp:∀ x∈l,p w x):RowIn f sz p w v l:=by
 rcases OwnRow.cells hf h with ⟨h1,h2⟩|⟨g,cap,h1,h2,h3,_,h4,h5⟩
 ·exact .inl ⟨none,h1,h2⟩
 ·exact .inr ⟨g,0,cap,h1,h2,h3,h4,fun j x hj=>⟨fun t ht=>by rw[show 0+j*sz+t=j*sz+t from by omega];exact h5 j t x hj ht,hp x (List.mem_of_getElem? hj)⟩⟩
theorem flat_one {α:Type} (f:α→List Value) (x:α):(f x).toArray=([x].flatMap f).toArray:=by simp
structure FIns where
 op:Int
 dst:Int
 two:Int
 args:List Int
 av:Value
 imm:Int
structure FPhi where
 dst:Int
 ins:List (Int × Int)
 inv:Value
structure FTerm where
 kind:Int
 args:List Int
 argsv:Value
 to:List Int
 tov:Value
 imm:Int
structure FBlk where
 phis:List FPhi
 phv:Value
 ins:List FIns
 inv:Value
 term:FTerm
structure FnV where
 params:Int
 blocks:List FBlk
 bv:Value
def ficells (x:FIns):List Value:=[.int .i64 x.op,.int .i64 x.dst,.int .i64 x.two,x.av,.int .i32 x.imm]
theorem ficells_len (x:FIns):(ficells x).length=5:=rfl
def prcells (x:Int × Int):List Value:=[.int .i64 x.1,.int .i64 x.2]
theorem prcells_len (x:Int × Int):(prcells x).length=2:=rfl
def fpcells (x:FPhi):List Value:=[.int .i64 x.dst,x.inv]
theorem fpcells_len (x:FPhi):(fpcells x).length=2:=rfl
def ftcells (x:FTerm):List Value:=[.int .i64 x.kind,x.argsv,x.tov,.int .i32 x.imm]
def fbcells (x:FBlk):List Value:=[x.phv,x.inv,.int .i64 x.term.kind,x.term.argsv,x.term.tov,.int .i32 x.term.imm]
theorem fbcells_len (x:FBlk):(fbcells x).length=6:=rfl
def fiv (x:FIns):Value:=.agg #[.int .i64 x.op,.int .i64 x.dst,.int .i64 x.two,x.av,.int .i32 x.imm]
def fv (f:FnV):Value:=.agg #[.int .i64 f.params,f.bv]
def FInsIn (w:World) (x:FIns):Prop:=Ints w x.av x.args
abbrev PairsIn (w:World) (v:Value) (l:List (Int × Int)):Prop:=RowIn prcells 2 (fun _ _=>True) w v l
def FPhiIn (w:World) (x:FPhi):Prop:=PairsIn w x.inv x.ins
def FTermIn (w:World) (x:FTerm):Prop:=Ints w x.argsv x.args∧Ints w x.tov x.to
def FBlkIn (w:World) (b:FBlk):Prop:=RowIn fpcells 2 FPhiIn w b.phv b.phis∧RowIn ficells 5 FInsIn w b.inv b.ins∧FTermIn w b.term
def FnIn (w:World) (f:FnV):Prop:=RowIn fbcells 6 FBlkIn w f.bv f.blocks
theorem PairsIn.keep {w w':World} {v : Value} {l : List (Int × Int)} (h:PairsIn w v l) (s:Since w w'):PairsIn w' v l:=RowIn.keep (fun _ _ _ _ _=>trivial) h s
theorem FInsIn.keep (w w':World) (x:FIns) (h:FInsIn w x) (s:Since w w'):FInsIn w' x:=Nums.keep h s
theorem FPhiIn.keep (w w':World) (x:FPhi) (h:FPhiIn w x) (s:Since w w'):FPhiIn w' x:=PairsIn.keep h s
theorem FTermIn.keep {w w':World} {x : FTerm} (h:FTermIn w x) (s:Since w w'):FTermIn w' x:=⟨h.1.keep s,h.2.keep s⟩
theorem FBlkIn.keep (w w':World) (b:FBlk) (h:FBlkIn w b) (s:Since w w'):FBlkIn w' b:=⟨RowIn.keep FPhiIn.keep h.1 s,RowIn.keep FInsIn.keep h.2.1 s,h.2.2.keep s⟩
theorem FnIn.keep {w w':World} {f : FnV} (h:FnIn w f) (s:Since w w'):FnIn w' f:=RowIn.keep FBlkIn.keep h s
def IsNilOf (e:TypeId) (w0:World) (v:Value) (w:World):Prop:=∃ b,v=.slice (some ⟨b,0,none⟩) 0 0∧w0.heap.size≤b∧w.heap[b]? = some (.cells #[] e (0,0))
theorem heap_lt {w : World} {b : Nat} {o : Obj} (h:w.heap[b]? = some o):b<w.heap.size:=(Array.getElem?_eq_some_iff.1 h).1
theorem IsNilOf.stable (e:TypeId) (w0:World):Stable (IsNilOf e w0):=fun v w w' ⟨b,h1,h2,h3⟩ s=>⟨b,h1,h2,(s.block b (heap_lt h3)).trans h3⟩
theorem IsNilOf.new {e : TypeId} {w0 w:World} (h:w0.heap.size≤w.heap.size):IsNilOf e w0 (.slice (some ⟨w.heap.size,0,none⟩) 0 0) (w.alloc (.cells #[] e)):=⟨_,rfl,h,heap_last _ _⟩
theorem IsNilOf.owns {e : TypeId} {w0 w:World} {v : Value} (h:IsNilOf e w0 v w) (sz:Nat):w.ownsRow w0.heap.size e sz v 0 []:=by
 obtain⟨b,rfl,h2,h3⟩:=h
 exact⟨by simp,.inr ⟨b,0,#[],rfl,h2,h3,by simp,by unfold maxLen;omega,by simp,by simp⟩⟩
theorem setRow_alike {w : World} {g : Nat} {cur:Array Value} {t : TypeId} (h:w.heap[g]? = some (.cells cur t (0,0))):Since w (w.setRow g cur):=by
 refine⟨rfl,rfl,rfl,by simp[World.setRow],fun k hk=>?_⟩
 by_cases e:k=g
 ·subst e
  rw[h]
  simp[World.setRow,Array.getElem?_modify,h]
 ·have e2:¬ g=k:=fun e3=>e e3.symm
  simp[World.setRow,Array.getElem?_modify,e2]
theorem run_append_none {P : Program} {w0 w:World} {t ty e:TypeId} {i : TypeInfo} {z : Value} {sz bytes:Nat} (ht:P.underlying t=some (.slice e)) (hi:P.info? e=some i) (hz0:i.zero=some z) (hz1:i.size=sz) (hz2:i.bytes=bytes) (hz:z.cells.size=sz) (hsz:0<sz) (hby:bytes≤1000)
  {v : Value} (hv:IsNilOf e w0 v w) (hle:w0.heap.size≤w.heap.size) (a:Addr) (m c:Nat) (xs:List Value) (hl:xs.length=m*sz) (hnews:∀ (j:Nat) (u:Value),xs[j]? = some u→w.cell? (a.add j)=some u) (h1:∀ u∈xs,u.oneCell'=true) (hlen:m≤100000) :
  ∃ v' w',(Builtin.append_ #[t,t] ty #[v,.slice (some a) m c]).run P w=.ok v' w'∧w'.ownsRow w0.heap.size e sz v' m xs∧Since w w':=by
 have hbb:(0+m)*bytes≤140737488355328:=by
  have:=Nat.mul_le_mul (show 0+m≤100000 by omega) hby
  omega
 obtain⟨v',w',hr,h2,_,_⟩:=run_append_own w w0.heap.size t ty e i z sz bytes ht hi hz0 hz1 hz2 hz hsz v 0 [] (hv.owns sz) a m c xs hl hnews h1 (by unfold maxLen;omega) hbb hle
 refine⟨v',w',hr,by simpa using h2,?_⟩
 obtain⟨b,rfl,hb,hh⟩:=hv
 by_cases hm:m=0
 ·subst hm
  obtain rfl:xs=[]:=List.length_eq_zero_iff.1 (by rw[hl];omega)
  have hr2:=run_append_room (P:=P) w t ty e i ht hi b 0 0 #[] hh a 0 c [] (by simp) (fun j u h=>by cases h) (fun u h=>by cases h) (by omega) (by simp)
  rw[hr]at hr2
  cases hr2
  have e:(List.take (0*i.size) (#[]:Array Value).toList++[]++List.drop (0*i.size+([]:List Value).length) (#[]:Array Value).toList).toArray=#[]:=by simp
  rw[e]
  exact setRow_alike hh
 ·have hr2:=run_append_grow (P:=P) w t ty e i z ht hi hz0 ⟨b,0,none⟩ 0 0 [] (by simp) (fun j u h=>by cases h) a m c xs (by rw[hz1];exact hl) hnews (by omega) (by omega) (growslice_fits (by omega) (by rw[hz2];exact hbb))
  rw[hr]at hr2
  cases hr2
  exact (Since.refl w).drew.alloc _
def SrcIs (w:World) (xv:Value) (m:Nat) (xs:List Value):Prop:=(∃ ad,xv=.slice ad 0 0∧m=0∧xs=[])∨∃ ad c,xv=.slice (some ad) m c∧∀ (j:Nat) (u:Value),xs[j]? = some u→w.cell? (ad.add j)=some u
theorem wpList_append_clone {P : Program} {w0 w:World} {ops:Array Oper} {rest:List Oper} {o : Oper} {a : Act} {Q : Exit→Act→World→Prop} (hgd:o.guard=none) (s x:Operand) (t:TypeId)
  (ho:o.op=.call { callee:=.builtin .append,args:=#[s,x],argTypes:=#[t,t] })
  (e:TypeId) (z:Value) (sz bytes:Nat) (ht:P.underlying t=some (.slice e)) (hinfo:(P.info? e).map (fun i=>(i.zero,i.size,i.bytes))=some (some z,sz,bytes)) (hz:z.cells.size=sz) (hsz:0<sz) (hby:bytes≤1000)
  (v xv:Value) (m:Nat) (xs:List Value) (hs:a.eval s=v) (hx:a.eval x=xv) (hown:IsNilOf e w0 v w) (hl:SrcIs w xv m xs) (hlm:xs.length=m*sz) (hlen:m≤100000) (h1:∀ u∈xs,u.oneCell'=true) (hle:w0.heap.size≤w.heap.size)
  (h:∀ v' w',w'.ownsRow w0.heap.size e sz v' m xs→Since w w'→wpList P ops Q rest (a.put o.dst v') w'):wpList P ops Q (o::rest) a w:=by
 obtain⟨i,hi,hz0,hz1,hz2⟩:=info_parts hinfo
 have key:∀ (ad:Addr) (c:Nat),a.eval x=.slice (some ad) m c→(∀ (j:Nat) (u:Value),xs[j]? = some u→w.cell? (ad.add j)=some u)→wpList P ops Q (o::rest) a w:=fun ad c hx2 hnews=>by
  refine wpList_plain hgd fun _ hK=>?_
  obtain⟨v',w',hr,h2,h3⟩:=run_append_none (P:=P) (t:=t) (ty:=o.type) ht hi hz0 hz1 hz2 hz hsz hby hown hle ad m c xs hlm hnews h1 hlen
  unfold Oper.wp execOp
  simp only[ho,resolve,invoke,builtin,Sem.run_bind,Sem.run_pure,Result.andThen_ok,List.map_toArray,List.map_cons,List.map_nil,hs,hx2,hr]
  exact hK _ _ (h v' w' h2 h3)
 rcases hl with ⟨ad,hv,rfl,rfl⟩|⟨ad,c,hv,hcell⟩
 ·cases ad with
  | none=>exact wpList_append_own_none hgd s x t ho w0.heap.size e i sz ht hi v _ _ hs (hown.owns sz) (hx.trans hv) (h v w (hown.owns sz) (Since.refl w))
  | some ad=>exact key ad 0 (hx.trans hv) (fun j u hu=>by cases hu)
 ·exact key ad c (hx.trans hv) hcell
theorem add_lit2 (b off j:Nat):(⟨b,off,none⟩:Addr).add j=⟨b,off+j,none⟩:=by
 unfold Addr.add
 split
 ·rename_i h0;subst h0;rfl
 ·rfl
theorem srcInts {k : IntKind} {w : World} {v : Value} {l : List Int} (h:Nums k w v l):SrcIs w v l.length (l.map (Value.int k)):=by
 rcases h with ⟨ad,hv,rfl⟩|⟨b,off,cap,hv,hcap,_,hb,hcell⟩
 ·exact .inl ⟨ad,hv,rfl,rfl⟩
 ·refine .inr ⟨⟨b,off,none⟩,cap,hv,fun j u hu=>?_⟩
  rw[List.getElem?_map]at hu
  obtain⟨n,hn,rfl⟩:=Option.map_eq_some_iff.1 hu
  rw[add_lit2]
  exact hcell j n hn
theorem flat_part {α:Type} (f:α→List Value) (sz:Nat) (hf:∀ x,(f x).length=sz) (hsz:0<sz):∀ (l:List α) (j:Nat) (u:Value),(l.flatMap f)[j]? = some u→∃ (k t:Nat) (x:α),j=k*sz+t∧l[k]? = some x∧t<sz∧(f x)[t]? = some u
 | [],j,u,h=>by cases h
 | x::r,j,u,h=>by
  rw[List.flatMap_cons]at h
  by_cases hj:j<sz
  ·rw[List.getElem?_append_left (by rw[hf];exact hj)]at h
   exact⟨0,j,x,by omega,rfl,hj,h⟩
  ·rw[List.getElem?_append_right (by rw[hf];omega),hf]at h
   obtain⟨k,t,y,h1,h2,h3,h4⟩:=flat_part f sz hf hsz r (j-sz) u h
   exact⟨k+1,t,y,by rw[Nat.succ_mul];omega,h2,h3,h4⟩
theorem srcRow {α:Type} {f : α→List Value} {sz:Nat} (hf:∀ x,(f x).length=sz) (hsz:0<sz) {p : World→α→Prop} {w : World} {v : Value} {l : List α} (h:RowIn f sz p w v l):SrcIs w v l.length (l.flatMap f):=by
 rcases h with ⟨ad,hv,rfl⟩|⟨b,off,cap,hv,hcap,_,hb,hcell⟩
 ·exact .inl ⟨ad,hv,rfl,rfl⟩
 ·refine .inr ⟨⟨b,off,none⟩,cap,hv,fun j u hu=>?_⟩
  obtain⟨k,t,y,rfl,hy,ht,hu2⟩:=flat_part f sz hf hsz l j u hu
  have:=(hcell k y hy).1 t ht
  rw[hu2]at this
  rw[add_lit2,←Nat.add_assoc]
  exact this
theorem flat_sz {α:Type} (f:α→List Value) (sz:Nat) (hf:∀ x,(f x).length=sz):∀ l:List α,(l.flatMap f).length=l.length*sz
 | []=>by simp
 | x::r=>by rw[List.flatMap_cons,List.length_append,hf,flat_sz f sz hf r,List.length_cons,Nat.succ_mul];omega
def NewNums (e:TypeId) (w0:World) (xs:List Int) (v:Value) (w:World):Prop:=w.ownsRow w0.heap.size e 1 v xs.length (xs.map (Value.int .i64))
theorem NewNums.stable (e:TypeId) (w0:World) (xs:List Int):Stable (NewNums e w0 xs):=fun v w w' h s=>own_keep h s
end Go.Proofs.Ytkpbmbhejpmboaa
