/- Ranges of a function's numbers; rows of the call's own as rows that are read; lengths of texts. Plain: how long a function's text is at most. Plain: how much a function has of which some things are turned; how long its text is. jacquardref03.Turned: a function of which something is turned, as it lie -/
import Derived.Test.YtmhojfpidedjeaaGreatDoorTq02
import Derived.Test.YtmhojfpidedjeaaGreatDoorTq03
import Derived.Test.YtmhojfpidedjeaaGreatDoorTq04
import Derived.Laws.BytesString
namespace Go.Proofs.YtmhojfpidedjeaaGreatDoor
open Go.RowKit
set_option linter.unusedVariables false
structure PhiR (p:FPhi):Prop where
 dst:In64 p.dst
 ins:∀ y∈p.ins,In64 y.1∧In64 y.2
structure TermR (t:FTerm):Prop where
 kd:In64 t.kind
 ar:∀ y∈t.args,In64 y
 tg:∀ y∈t.to,In64 y
 im:In32W t.imm
structure BlkR (b:FBlk):Prop where
 phis:∀ p∈b.phis,PhiR p
 ins:∀ i∈b.ins,InsR i
 term:TermR b.term
structure FnR (f:FnV):Prop where
 params:In64 f.params
 blocks:∀ b∈f.blocks,BlkR b
def NewRow (cs:Array Value) (T:TypeId) (n:Nat) (v:Value) (w:World):Prop:=∃ g,v=.slice (some ⟨g,0,none⟩) n n∧HeapIs w g cs T
theorem NewRow.stable (cs:Array Value) (T:TypeId) (n:Nat):Stable (NewRow cs T n):=fun _ _ _ h hs=>by
 obtain⟨g,h1,h2⟩:=h
 exact⟨g,h1,h2.keep hs⟩
theorem wpList_append_row {α:Type} {P : Program} {w0 w:World} {ops:Array Oper} {rest:List Oper} {o : Oper} {a : Act} {Q : Exit→Act→World→Prop} (f:α→List Value) (hf1:∀ x,(f x).length=1) (hone:∀ x,∀ u∈f x,u.oneCell'=true) (hgd:o.guard=none) (s x:Operand) (t:TypeId)
  (ho:o.op=.call { callee:=.builtin .append,args:=#[s,x],argTypes:=#[t,t] })
  (e:TypeId) (z:Value) (bytes:Nat) (ht:P.underlying t=some (.slice e)) (hinfo:(P.info? e).map (fun i=>(i.zero,i.size,i.bytes))=some (some z,1,bytes)) (hz:z.cells.size=1) (hby:bytes≤16)
  (v xv:Value) (l1 l2:List α) (hs:a.eval s=v) (hx:a.eval x=xv) (hown:OwnRow f 1 e w0.heap.size w v l1) {p : World→α→Prop} (hl2:RowIn f 1 p w xv l2)
  (hlen:l1.length+l2.length≤1000000) (hsince:Since w0 w)
  (h:∀ v' w',OwnRow f 1 e w0.heap.size w' v' (l1++l2)→Since w0 w'→wpList P ops Q rest (a.put o.dst v') w'):wpList P ops Q (o::rest) a w:=by
 obtain⟨i,hi,hz0,hz1,hz2⟩:=info_parts hinfo
 have hgr:∀ (w':World),w.grownBy w' v.ownBlock→Since w0 w':=by
  intro w' hgrow
  refine Below.grown hsince hgrow hsince.size ?_
  intro r hr
  obtain⟨_,⟨hv,_⟩|⟨g,cap,cur,hv,hg,_⟩⟩:=hown
  ·subst hv;cases hr
  ·subst hv;cases hr;exact hg
 unfold OwnRow at hown
 rcases hl2 with ⟨ad,hv,rfl⟩|⟨b,off,cap,hv,hcap,_,hb,hcell⟩
 ·subst hv
  cases ad with
  | none =>
   refine wpList_append_own_none hgd s x t ho w0.heap.size e i 1 ht hi v _ _ hs hown hx (h v w ?_ hsince)
   unfold OwnRow;simpa using hown
  | some ad =>
   refine wpList_append_own _ hgd s x t ho w0.heap.size e i z 1 bytes ht hi hz0 hz1 hz2 hz (by decide) v _ _ hs hown ad 0 0 [] hx rfl (fun j u hu=>by cases hu) (fun u hu=>by cases hu) (by unfold maxLen;simp at hlen;omega) ?_ hsince.size ?_
   ·have:(l1.length+0)*bytes≤1000000*16:=Nat.mul_le_mul (by simpa using hlen) hby
    omega
   ·intro v' w' hown' hgrow _
    exact h v' w' (by unfold OwnRow;simpa using hown') (hgr w' hgrow)
 ·subst hv
  refine wpList_append_own _ hgd s x t ho w0.heap.size e i z 1 bytes ht hi hz0 hz1 hz2 hz (by decide) v _ _ hs hown ⟨b,off,none⟩ l2.length cap (l2.flatMap f) hx (by rw[flat_len f 1 hf1]) ?_ ?_ (by unfold maxLen;omega) ?_ hsince.size ?_
  ·intro j u hu
   have hj:j<l2.length:=by have:=(List.getElem?_eq_some_iff.1 hu).1;rw[flat_len f 1 hf1]at this;omega
   obtain⟨y,hy⟩:∃ y,l2[j]? = some y:=⟨_,List.getElem?_eq_getElem hj⟩
   have h2:=(hcell j y hy).1 0 (by decide)
   rw[Nat.mul_one,Nat.add_zero]at h2
   have h3:=flat_at f 1 hf1 l2 j 0 y hy (by decide)
   rw[Nat.mul_one,Nat.add_zero,hu]at h3
   rw[←h3]at h2
   unfold Addr.add
   split
   ·rename_i h0;subst h0;simpa using h2
   ·exact h2
  ·intro u hu
   obtain⟨y,_,hy⟩:=List.mem_flatMap.1 hu
   exact hone y u hy
  ·have:(l1.length+l2.length)*bytes≤1000000*16:=Nat.mul_le_mul hlen hby
   omega
  ·intro v' w' hown' hgrow _
   exact h v' w' (by unfold OwnRow;simpa using hown') (hgr w' hgrow)
theorem itc_len (x:It):(itc x).length=1:=by cases x<;>rfl
theorem itc_one (x:It):∀ u∈itc x,u.oneCell'=true:=by cases x<;>(intro u hu;simp[itc]at hu;subst hu;rfl)
theorem its_own {B b base:Nat} {w : World} {v : Value} {its:List It} (h:OwnRow itc 1 20 base w v its) (hlt:∀ q,v.ownBlock=some q→q≠b) (hw:∀ x∈its,∀ w',Kept B b w w'→ItIn w' x) :
  ∀ w',Kept B b w w'→ItsIn w' v its:=by
 intro w' hk
 obtain⟨h0,⟨rfl,hn⟩|⟨g,cap,cur,hv,hg,hb,hc,hm,hs,htake⟩⟩:=h
 ·exact .inl ⟨none,rfl,List.length_eq_zero_iff.1 hn⟩
 ·subst hv
  have hb2:=hk.heap hb (hlt g rfl) (by decide)
  refine .inr ⟨g,0,cap,rfl,hc,hm,(Array.getElem?_eq_some_iff.1 hb2).1,fun j x hx=>⟨fun t ht=>?_,hw x (List.mem_of_getElem? hx) w' hk⟩⟩
  obtain rfl:t=0:=by omega
  have h3:=flat_at itc 1 itc_len its j 0 x hx (by decide)
  have hj:j<its.length:=(List.getElem?_eq_some_iff.1 hx).1
  rw[←h3,←htake]
  simp only[World.cell?,hb2,Nat.mul_one,Nat.add_zero,Nat.zero_add]
  rw[List.getElem?_take_of_lt (by omega)]
  simp
theorem blks_next {l : List DBlk} {k : Nat} {x : DBlk} (h:l[k]? = some x):blksS l (k+1)=blksS l k++blkS k x:=by
 unfold blksS
 rw[List.range_succ,List.flatMap_append]
 simp[blkAt,h]
theorem blks_le (l:List DBlk):∀ (n k:Nat),k≤n→(blksS l k).length≤(blksS l n).length
 | 0,k,h=>by rw[show k=0 from by omega];exact Nat.le_refl _
 | n+1,k,h=>by
  by_cases hk:k=n+1
  ·rw[hk];exact Nat.le_refl _
  ·have h1:=blks_le l n k (by omega)
   have h2:blksS l (n+1)=blksS l n++blkAt l n:=by unfold blksS;rw[List.range_succ,List.flatMap_append];simp
   rw[h2,List.length_append];omega
theorem blk_len (k:Nat) (x:DBlk):(blkS k x).length=6+(dS k).length+((x.phis.flatMap fun p=>phiS p++[10]).length+((x.ins.flatMap fun i=>insS i++[10]).length+((termS x.term).length+1))):=by
 unfold blkS bodyS
 simp only[List.length_append,List.length_cons,List.length_nil];omega
theorem bu_new (w:World) (o:Obj):Bu w.heap.size (w.heap.size+1) [] ((w.alloc o).alloc (.cells #[.pointer none,.slice none 0 0] 67)):=by
 refine .inl ⟨by omega,.slice none 0 0,?_,⟨rfl,.inl ⟨rfl,rfl⟩⟩,by simp[Value.ownBlock]⟩
 have h:=heap_last (w.alloc o) (.cells #[.pointer none,.slice none 0 0] 67)
 rw[show (w.alloc o).heap.size=w.heap.size+1 from by simp]at h
 exact h
theorem own_new {α:Type} (f:α→List Value) (sz:Nat) (e:TypeId) (w:World) (l:List α) (n:Nat) (hf:∀ x,(f x).length=sz) (hn:n=l.length) (hm:n≤1000) (cs:Array Value) (hcs:cs=(l.flatMap f).toArray):OwnRow f sz e w.heap.size (w.alloc (.cells cs e)) (.slice (some ⟨w.heap.size,0,none⟩) n n) l:=by
 subst hn;subst hcs
 have h:=flat_len f sz hf l
 refine⟨h,.inr ⟨w.heap.size,l.length,_,rfl,Nat.le_refl _,heap_last _ _,Nat.le_refl _,by unfold maxLen;omega,by rw[List.size_toArray];exact h,?_⟩⟩
 rw[←h]
 exact List.take_length
theorem flat_le {α:Type} (f:α→Bs) (k:Nat):∀ (l:List α),(∀ x∈l,(f x).length≤k)→(l.flatMap f).length≤k*l.length
 | [],_=>by simp
 | x::r,h=>by
  rw[List.flatMap_cons,List.length_append,List.length_cons,Nat.mul_succ]
  have h1:=h x (List.mem_cons_self ..)
  have h2:=flat_le f k r fun y hy=>h y (List.mem_cons_of_mem _ hy)
  omega
theorem flat_le2 {α:Type} (f:α→Bs) (k n:Nat) (l:List α) (h:∀ x∈l,(f x).length≤k) (hn:l.length≤n):(l.flatMap f).length≤k*n:=
 Nat.le_trans (flat_le f k l h) (Nat.mul_le_mul_left k hn)
theorem allS_le (l:List Int) (n:Nat) (h:∀ x∈l,In64 x) (hn:l.length≤n):(allS l).length≤22*n:=flat_le2 dS 22 n l (fun x hx=>dS_len x (h x hx)) hn
theorem names_le:∀ i,i<18→(opNames.getD i ByteArray.empty).data.toList.length≤6:=by decide
theorem opS_le (op:Int):(opS op).length≤6:=by
 unfold opS nameF
 split
 ·decide
 ·exact names_le _ (by omega)
theorem terms_le:∀ i,i<5→(termNames.getD i ByteArray.empty).data.toList.length≤6:=by decide
theorem termB_le (k:Int):(termB k).data.toList.length≤6:=by
 unfold termB
 split
 ·decide
 ·exact terms_le _ (by omega)
theorem in64_32 {x : Int} (h:In32W x):In64 x:=⟨by have:=h.1;omega,by have:=h.2;omega⟩
theorem insS_le (x:FIns) (A:Nat) (h:InsR x) (hn:x.args.length≤A):(insS x.d).length≤60+22*A:=by
 have h1:=opS_le x.op
 have h2:=dS_len x.dst h.dst
 have h3:=dS_len x.two h.two
 have h4:=dS_len x.imm (in64_32 h.imm)
 have h5:=allS_le x.args A h.args hn
 unfold insS FIns.d
 dsimp only
 split
 ·simp only[List.length_append];omega
 ·split
  ·simp only[List.length_append];omega
  ·split
   ·simp only[List.length_append];omega
   ·split
    ·simp only[List.length_append];omega
    ·split
     ·simp only[List.length_append];omega
     ·split
      ·simp only[List.length_append];omega
      ·show 1≤_;omega
theorem termS_le (x:FTerm) (T:Nat) (h:TermR x) (h1:x.args.length≤T) (h2:x.to.length≤T):(termS x.d).length≤40+44*T:=by
 have h3:=termB_le x.kind
 have h4:=dS_len x.imm (in64_32 h.im)
 have h5:=allS_le x.args T h.ar h1
 have h6:=allS_le x.to T h.tg h2
 unfold termS FTerm.d
 dsimp only
 split
 ·show 1≤_;omega
 ·split
  ·simp only[List.length_append];omega
  ·simp only[List.length_append];omega
theorem pairS_le (y:Int × Int) (h:In64 y.1∧In64 y.2):(pairS y).length≤44:=by
 have h1:=dS_len y.1 h.1
 have h2:=dS_len y.2 h.2
 unfold dS at h2
 unfold pairS
 simp only[List.length_append,List.length_cons]at h2 ⊢
 omega
theorem phiS_le (p:FPhi) (K:Nat) (h:PhiR p) (hn:p.ins.length≤K):(phiS p.d).length≤25+44*K:=by
 have h1:=dS_len p.dst h.dst
 have h2:=flat_le2 pairS 44 K p.ins (fun y hy=>pairS_le y (h.ins y hy)) hn
 unfold phiS FPhi.d
 dsimp only
 simp only[List.length_append,List.length_cons,List.length_nil]
 omega
theorem blkS_le (k:Nat) (b:FBlk) (P K I A T:Nat) (hk:k≤1000000) (hr:BlkR b) (h1:b.phis.length≤P) (h2:∀ p∈b.phis,p.ins.length≤K) (h3:b.ins.length≤I) (h4:∀ i∈b.ins,i.args.length≤A) (h5:b.term.args.length≤T) (h6:b.term.to.length≤T) :
  (blkS k b.d).length≤80+(26+44*K)*P+(61+22*A)*I+44*T:=by
 have g1:=dS_len (k:Int) ⟨by omega,by omega⟩
 have g2:(b.d.phis.flatMap fun p=>phiS p++[10]).length≤(26+44*K)*P:=by
  refine flat_le2 _ _ P _ (fun x hx=>?_) (by show (b.phis.map FPhi.d).length≤P;rw[List.length_map];exact h1)
  obtain⟨p,hp,rfl⟩:=List.mem_map.1 (show x∈b.phis.map FPhi.d from hx)
  have:=phiS_le p K (hr.phis p hp) (h2 p hp)
  rw[List.length_append,List.length_singleton];omega
 have g3:(b.d.ins.flatMap fun i=>insS i++[10]).length≤(61+22*A)*I:=by
  refine flat_le2 _ _ I _ (fun x hx=>?_) (by show (b.ins.map FIns.d).length≤I;rw[List.length_map];exact h3)
  obtain⟨p,hp,rfl⟩:=List.mem_map.1 (show x∈b.ins.map FIns.d from hx)
  have:=insS_le p A (hr.ins p hp) (h4 p hp)
  rw[List.length_append,List.length_singleton];omega
 have g4:=termS_le b.term T hr.term h5 h6
 have g5:b.d.term=b.term.d:=rfl
 rw[blk_len,g5]
 omega
structure TnF (n:Nat) (f:FnV):Prop where
 r:FnR f
 blocks:1≤f.blocks.length∧f.blocks.length≤9
 phis:∀ b∈f.blocks,b.phis.length≤3+n∧∀ p∈b.phis,p.ins.length≤9+n
 args:∀ b∈f.blocks,∀ i∈b.ins,i.args.length≤4
 term:∀ b∈f.blocks,b.term.args.length≤65+n∧b.term.to.length≤65+n
 total:(f.blocks.map fun b=>b.ins.length).sum≤700
theorem TnF.one {n : Nat} {f : FnV} (h:TnF n f) {b : FBlk} (hb:b∈f.blocks):b.ins.length≤700:=by
 have h1:∀ l:List Nat,∀ x∈l,x≤l.sum:=fun l=>by
  induction l with
  | nil=>intro x hx;cases hx
  | cons y r ih =>
   intro x hx
   rw[List.sum_cons]
   rcases List.mem_cons.1 hx with rfl|hx
   ·omega
   ·have:=ih x hx;omega
 have h2:=h1 _ _ (List.mem_map_of_mem (f:=fun b:FBlk=>b.ins.length) hb)
 have:=h.total
 omega
theorem blks_sum2 (c d:Nat):∀ (m:Nat) (l:List FBlk),m≤l.length→(∀ k b,l[k]? = some b→(blkS k b.d).length≤c+d*b.ins.length)→(blksS (l.map FBlk.d) m).length≤c*m+d*((l.take m).map fun b=>b.ins.length).sum
 | 0,l,_,_=>by simp[blksS]
 | m+1,l,hm,h=>by
  have ih:=blks_sum2 c d m l (by omega) h
  have hb:l[m]? = some l[m]:=List.getElem?_eq_getElem (by omega)
  have h1:(l.map FBlk.d)[m]? = some l[m].d:=by rw[List.getElem?_map,hb];rfl
  rw[blks_next h1,List.length_append,List.take_add_one,hb]
  have h2:=h m _ hb
  simp only[Option.toList_some,List.map_append,List.map_cons,List.map_nil,List.sum_append,List.sum_cons,List.sum_nil,Nat.mul_add,Nat.mul_one,Nat.add_zero]
  omega
theorem TnF.len {n : Nat} {f : FnV} (h:TnF n f) (hn:n≤2):(funcS f.d).length≤500000:=by
 have h1:=blks_sum2 5578 149 f.blocks.length f.blocks (Nat.le_refl _) fun k b hk=>by
  have hm:=List.mem_of_getElem? hk
  have hlt:=(List.getElem?_eq_some_iff.1 hk).1
  have:=h.blocks
  have g:=h.phis b hm
  have g2:=h.term b hm
  have:=blkS_le k b 5 11 b.ins.length 4 67 (by omega) (h.r.blocks b hm) (by omega) (fun p hp=>by have:=g.2 p hp;omega) (Nat.le_refl _) (h.args b hm) (by omega) (by omega)
  omega
 rw[List.take_length]at h1
 have h2:=h.total
 have h4:=h.blocks
 have h3:=dS_len f.params h.r.params
 unfold funcS
 have e:f.d.blocks=f.blocks.map FBlk.d:=rfl
 have e2:f.d.params=f.params:=rfl
 rw[e,e2,List.length_map]
 simp only[List.length_append,List.length_cons,List.length_nil]
 omega
theorem sum_set:∀ (l:List Nat) (b x y:Nat),l[b]? = some x→y≤x→(l.set b y).sum≤l.sum
 | [],b,x,y,h,_=>by simp at h
 | z::r,0,x,y,h,hy=>by
  obtain rfl:z=x:=by simpa using h
  simp only[List.set_cons_zero,List.sum_cons];omega
 | z::r,b+1,x,y,h,hy=>by
  have:=sum_set r b x y (by simpa using h) hy
  simp only[List.set_cons_succ,List.sum_cons];omega
structure BlkT (n:Nat) (x y:FBlk):Prop where
 r:BlkR y
 phis:y.phis.length≤4+n∧∀ p∈y.phis,p.ins.length≤10+n
 args:∀ i∈y.ins,i.args.length≤4
 term:y.term.args.length≤66+n∧y.term.to.length≤66+n
 less:y.ins.length≤x.ins.length
theorem mem_set {α:Type} {l : List α} {b : Nat} {x y:α} (h:x∈l.set b y):x=y∨x∈l:=by
 rcases List.mem_or_eq_of_mem_set h with h|h
 ·exact .inr h
 ·exact .inl h
theorem TnF.set {n : Nat} {f : FnV} (h:TnF n f) {b : Nat} {x y:FBlk} (hb:f.blocks[b]? = some x) (hy:BlkT n x y) (p:Int) (hp:In64 p) (v:Value):TnF (n+1) ⟨p,f.blocks.set b y,v⟩:=by
 have hset:∀ {q : FBlk→Prop},(∀ z∈f.blocks,q z)→q y→∀ z∈f.blocks.set b y,q z:=fun h1 h2 z hz=>by
  rcases mem_set hz with rfl|hz
  ·exact h2
  ·exact h1 z hz
 refine⟨⟨hp,hset h.r.blocks hy.r⟩,by show 1≤(f.blocks.set b y).length∧_;rw[List.length_set];exact h.blocks,?_,hset h.args hy.args,?_,?_⟩
 ·exact hset (fun z hz=>by have g:=h.phis z hz;exact⟨by omega,fun p hp=>by have:=g.2 p hp;omega⟩) ⟨by have:=hy.phis.1;omega,fun p hp=>by have:=hy.phis.2 p hp;omega⟩
 ·exact hset (fun z hz=>by have g:=h.term z hz;omega) (by have:=hy.term;omega)
 ·show ((f.blocks.set b y).map fun b=>b.ins.length).sum≤700
  rw[List.map_set]
  have h1:=sum_set (f.blocks.map fun b=>b.ins.length) b x.ins.length y.ins.length (by rw[List.getElem?_map,hb];rfl) hy.less
  have:=h.total
  omega
def setL:List Value→Nat→List Value→List Value
 | xs,_,[]=>xs
 | xs,o,y::r=>setL (xs.set o y) (o+1) r
theorem setL_mid (post:List Value):∀ (b a pre:List Value),a.length=b.length→setL (pre++a++post) pre.length b=pre++b++post
 | [],a,pre,h=>by
  obtain rfl:=List.length_eq_zero_iff.1 h
  rfl
 | y::r,[],pre,h=>by simp at h
 | y::r,z::a,pre,h=>by
  have ih:=setL_mid post r a (pre++[y]) (by simpa using h)
  unfold setL
  rw[show (pre++z::a++post).set pre.length y=pre++[y]++a++post from by simp,show pre.length+1=(pre++[y]).length from by simp,ih]
  simp
theorem own_setCells {base:Nat} {e : TypeId} {sz n g cap:Nat}:∀ (ys:List Value) (o:Nat) (w:World) (xs:List Value),w.ownsRow base e sz (.slice (some ⟨g,0,none⟩) n cap) n xs→(w.setCells g o ys).ownsRow base e sz (.slice (some ⟨g,0,none⟩) n cap) n (setL xs o ys)
 | [],_,_,_,h=>h
 | y::r,o,w,xs,h=>own_setCells r (o+1) _ _ (own_setCell h o y)
theorem setCells_turn {S : Nat→Prop} {g : Nat} (hg:S g):∀ (ys:List Value) (o:Nat) (w:World),Turn S w (w.setCells g o ys)
 | [],_,w=>Turn.refl _ _
 | y::r,o,w=>((Turn.refl S w).setCell (p:=⟨g,o,none⟩) hg y).trans (setCells_turn hg r (o+1) _)
theorem own_setRow {α:Type} {f : α→List Value} {sz:Nat} (hf:∀ x,(f x).length=sz) {e : TypeId} {base g n cap:Nat} {w : World} {l : List α} (h:OwnRow f sz e base w (.slice (some ⟨g,0,none⟩) n cap) l) {j : Nat} {x : α} (hj:l[j]? = some x) (x':α):OwnRow f sz e base (w.setCells g (j*sz) (f x')) (.slice (some ⟨g,0,none⟩) n cap) (l.set j x'):=by
 have hn:l.length=n:=by
  obtain⟨a,c,e1⟩:=h.shape
  injection e1 with _ e2 _;exact e2.symm
 have hlt:=(List.getElem?_eq_some_iff.1 hj).1
 have hx:l[j]=x:=(List.getElem?_eq_some_iff.1 hj).2
 have h2:=own_setCells (f x') (j*sz) w _ (by unfold OwnRow at h;rw[hn]at h;exact h)
 have e1:l=l.take j++(x::l.drop (j+1)):=by rw[←hx,List.getElem_cons_drop hlt,List.take_append_drop]
 have e2:l.set j x'=l.take j++(x'::l.drop (j+1)):=List.set_eq_take_append_cons_drop.trans (if_pos hlt)
 have e3:setL (l.flatMap f) (j*sz) (f x')=(l.set j x').flatMap f:=by
  rw[e2,e1]
  simp only[List.flatMap_append,List.flatMap_cons]
  have h4:=setL_mid ((l.drop (j+1)).flatMap f) (f x') (f x) ((l.take j).flatMap f) (by rw[hf,hf])
  have h5:((l.take j).flatMap f).length=j*sz:=by rw[flat_len f sz hf,List.length_take,Nat.min_eq_left (by omega)]
  rw[h5]at h4
  have e6:(l.take j++x::l.drop (j+1)).take j=l.take j:=by rw[←e1]
  have e7:(l.take j++x::l.drop (j+1)).drop (j+1)=l.drop (j+1):=by rw[←e1]
  rw[e6,e7]
  simpa using h4
 unfold OwnRow
 rw[List.length_set,hn,←e3]
 exact h2
theorem own_setOne {α:Type} {f : α→List Value} {sz:Nat} (hf:∀ x,(f x).length=sz) {e : TypeId} {base g n cap:Nat} {w : World} {l : List α} (h:OwnRow f sz e base w (.slice (some ⟨g,0,none⟩) n cap) l) {j t:Nat} {x x':α} {u : Value} (hj:l[j]? = some x) (ht:t<sz) (hx:f x'=(f x).set t u):OwnRow f sz e base (w.setCell ⟨g,j*sz+t,none⟩ u) (.slice (some ⟨g,0,none⟩) n cap) (l.set j x'):=by
 have hn:l.length=n:=by
  obtain⟨a,c,e1⟩:=h.shape
  injection e1 with _ e2 _;exact e2.symm
 have h2:=own_setCell (by unfold OwnRow at h;rw[hn]at h;exact h) (j*sz+t) u
 unfold OwnRow
 rw[List.length_set,hn,←flat_set f sz hf l j t x x' u hj ht hx]
 exact h2
structure TnS (w0:World) (fb rq bb nb bc qx:Nat) (bl:List FBlk) (p:Int) (phv:Value) (phl:List FPhi) (inv:Value) (il:List FIns) (kd:Int) (av tv:Value) (im:Int) (w:World):Prop where
 since:Since w0 w
 low:w0.heap.size≤fb∧w0.heap.size≤rq∧w0.heap.size≤qx
 ne:fb≠rq∧qx≠bb
 fbox:HeapIs w fb #[.int .i64 p,.slice (some ⟨bb,0,none⟩) nb bc] 24
 rbox:HeapIs w rq #[.int .i64 0,.slice none 0 0] 24
 xbox:HeapIs w qx #[phv,inv,.int .i64 kd,av,tv,.int .i32 im] 57
 row:OwnRow fbcells 6 57 w0.heap.size w (.slice (some ⟨bb,0,none⟩) nb bc) bl
 phis:OwnRow fpcells 2 60 w0.heap.size w phv phl
 ins:OwnRow ficells 5 51 w0.heap.size w inv il
section
variable {w0 w w':World} {fb rq bb nb bc qx:Nat} {bl:List FBlk} {p p':Int} {phv phv' inv inv':Value} {phl phl':List FPhi} {il il':List FIns} {kd kd' im im':Int} {av av' tv tv':Value}
theorem TnS.keep (h:TnS w0 fb rq bb nb bc qx bl p phv phl inv il kd av tv im w) (s:Since w w'):TnS w0 fb rq bb nb bc qx bl p phv phl inv il kd av tv im w':=
 ⟨h.since.trans s,h.low,h.ne,h.fbox.keep s,h.rbox.keep s,h.xbox.keep s,OwnRow.keep h.row s,OwnRow.keep h.phis s,OwnRow.keep h.ins s⟩
theorem TnS.turn {T : Nat→Prop} (h:TnS w0 fb rq bb nb bc qx bl p phv phl inv il kd av tv im w) (t:Turn T w w') (hT:∀ q,q<w.heap.size→T q→w0.heap.size≤q∧q≠fb∧q≠rq∧q≠qx∧q≠bb∧¬ phv.ownBlock=some q∧¬ inv.ownBlock=some q):TnS w0 fb rq bb nb bc qx bl p phv phl inv il kd av tv im w':=
 have hlt:∀ {v : Value} {e : TypeId} {sz n:Nat} {xs:List Value},w.ownsRow w0.heap.size e sz v n xs→∀ q,v.ownBlock=some q→q<w.heap.size:=fun ho q hq=>by
  obtain⟨cur,hc⟩:=own_heap ho hq
  exact (Array.getElem?_eq_some_iff.1 hc).1
 ⟨t.toSince h.since fun q hq e=>by have:=(hT q (Nat.lt_of_lt_of_le hq h.since.size) e).1;omega,h.low,h.ne,h.fbox.turn t fun e=>(hT _ h.fbox.lt e).2.1 rfl,h.rbox.turn t fun e=>(hT _ h.rbox.lt e).2.2.1 rfl,h.xbox.turn t fun e=>(hT _ h.xbox.lt e).2.2.2.1 rfl,
  own_turn h.row t fun q hq e=>(hT q (hlt h.row q hq) e).2.2.2.2.1 (Option.some.inj hq).symm,own_turn h.phis t fun q hq e=>(hT q (hlt h.phis q hq) e).2.2.2.2.2.1 hq,own_turn h.ins t fun q hq e=>(hT q (hlt h.ins q hq) e).2.2.2.2.2.2 hq⟩
theorem TnS.turnRow (h:TnS w0 fb rq bb nb bc qx bl p phv phl inv il kd av tv im w) {e : TypeId} {sz n base:Nat} {v : Value} {xs:List Value} (ho:w.ownsRow base e sz v n xs) (hb:w0.heap.size≤base) (he:e≠24∧e≠57∧e≠60∧e≠51) (t:Turn (fun q=>v.ownBlock=some q) w w'):TnS w0 fb rq bb nb bc qx bl p phv phl inv il kd av tv im w':=
 h.turn t fun q _ hq=>⟨Nat.le_trans hb (World.ownsRow.lt ho q hq).1,fun e1=>own_not ho h.fbox he.1 (e1 ▸ hq),fun e1=>own_not ho h.rbox he.1 (e1 ▸ hq),fun e1=>own_not ho h.xbox he.2.1 (e1 ▸ hq),fun e1=>own_ne ho h.row he.2.1 q hq (by rw[e1];rfl),own_ne ho h.phis he.2.2.1 q hq,own_ne ho h.ins he.2.2.2 q hq⟩
theorem TnS.setP (h:TnS w0 fb rq bb nb bc qx bl p phv phl inv il kd av tv im w) (p':Int):TnS w0 fb rq bb nb bc qx bl p' phv phl inv il kd av tv im (w.setCell ⟨fb,0,none⟩ (.int .i64 p')):=by
 have t:Turn (fun q=>q=fb) w (w.setCell ⟨fb,0,none⟩ (.int .i64 p')):=(Turn.refl _ _).setCell (by rfl) _
 refine⟨t.toSince h.since fun q hq e=>by have:=h.low;omega,h.low,h.ne,h.fbox.set 0 _,h.rbox.turn t (fun e=>h.ne.1 e.symm),h.xbox.turn t (heap_ne h.xbox h.fbox (by decide)),own_turn h.row t fun q hq e=>own_not h.row h.fbox (by decide) (e ▸ hq),own_turn h.phis t fun q hq e=>own_not h.phis h.fbox (by decide) (e ▸ hq),own_turn h.ins t fun q hq e=>own_not h.ins h.fbox (by decide) (e ▸ hq)⟩
theorem TnS.put (h:TnS w0 fb rq bb nb bc qx bl p phv phl inv il kd av tv im w) {i : Nat} {u : Value} (hc : #[phv,inv,.int .i64 kd,av,tv,.int .i32 im].setIfInBounds i u=#[phv',inv',.int .i64 kd',av',tv',.int .i32 im']) (h1:OwnRow fpcells 2 60 w0.heap.size w phv' phl') (h2:OwnRow ficells 5 51 w0.heap.size w inv' il') :
  TnS w0 fb rq bb nb bc qx bl p phv' phl' inv' il' kd' av' tv' im' (w.setCell ⟨qx,i,none⟩ u):=by
 have t:Turn (fun q=>q=qx) w (w.setCell ⟨qx,i,none⟩ u):=(Turn.refl _ _).setCell (by rfl) _
 have hx:=h.xbox.set i u
 rw[hc]at hx
 refine⟨t.toSince h.since fun q hq e=>by have:=h.low;omega,h.low,h.ne,h.fbox.turn t (heap_ne h.fbox h.xbox (by decide)),h.rbox.turn t (heap_ne h.rbox h.xbox (by decide)),hx,own_turn h.row t fun q hq e=>h.ne.2 (by rw[←e];exact (Option.some.inj hq).symm),own_turn h1 t fun q hq e=>own_not h1 h.xbox (by decide) (e ▸ hq),own_turn h2 t fun q hq e=>own_not h2 h.xbox (by decide) (e ▸ hq)⟩
theorem TnS.addIn (h:TnS w0 fb rq bb nb bc qx bl p phv phl inv il kd av tv im w) (ho:OwnRow ficells 5 51 w0.heap.size w' inv' il') (t:Turn (fun q=>inv.ownBlock=some q) w w'):TnS w0 fb rq bb nb bc qx bl p phv phl inv' il' kd av tv im (w'.setCell ⟨qx,1,none⟩ inv'):=by
 have t2:Turn (fun q=>q=qx) w' (w'.setCell ⟨qx,1,none⟩ inv'):=(Turn.refl _ _).setCell (by rfl) _
 have hx:=h.xbox.turn t (own_not h.ins h.xbox (by decide))
 have hf:=h.fbox.turn t (own_not h.ins h.fbox (by decide))
 have hr:=h.rbox.turn t (own_not h.ins h.rbox (by decide))
 have hrow:=own_turn h.row t fun q hq=>own_ne h.row h.ins (by decide) q hq
 have hph:=own_turn h.phis t fun q hq=>own_ne h.phis h.ins (by decide) q hq
 exact⟨t2.toSince (t.toSince h.since fun q hq e=>by have:=(World.ownsRow.lt h.ins q e).1;omega) fun q hq e=>by have:=h.low;omega,h.low,h.ne,hf.turn t2 (heap_ne hf hx (by decide)),hr.turn t2 (heap_ne hr hx (by decide)),hx.set 1 _,own_turn hrow t2 fun q hq e=>h.ne.2 (by rw[←e];exact (Option.some.inj hq).symm),own_turn hph t2 fun q hq e=>own_not hph hx (by decide) (e ▸ hq),own_turn ho t2 fun q hq e=>own_not ho hx (by decide) (e ▸ hq)⟩
theorem TnS.addPh (h:TnS w0 fb rq bb nb bc qx bl p phv phl inv il kd av tv im w) (ho:OwnRow fpcells 2 60 w0.heap.size w' phv' phl') (t:Turn (fun q=>phv.ownBlock=some q) w w'):TnS w0 fb rq bb nb bc qx bl p phv' phl' inv il kd av tv im (w'.setCell ⟨qx,0,none⟩ phv'):=by
 have t2:Turn (fun q=>q=qx) w' (w'.setCell ⟨qx,0,none⟩ phv'):=(Turn.refl _ _).setCell (by rfl) _
 have hx:=h.xbox.turn t (own_not h.phis h.xbox (by decide))
 have hf:=h.fbox.turn t (own_not h.phis h.fbox (by decide))
 have hr:=h.rbox.turn t (own_not h.phis h.rbox (by decide))
 have hrow:=own_turn h.row t fun q hq=>own_ne h.row h.phis (by decide) q hq
 have hin:=own_turn h.ins t fun q hq=>own_ne h.ins h.phis (by decide) q hq
 exact⟨t2.toSince (t.toSince h.since fun q hq e=>by have:=(World.ownsRow.lt h.phis q e).1;omega) fun q hq e=>by have:=h.low;omega,h.low,h.ne,hf.turn t2 (heap_ne hf hx (by decide)),hr.turn t2 (heap_ne hr hx (by decide)),hx.set 0 _,own_turn hrow t2 fun q hq e=>h.ne.2 (by rw[←e];exact (Option.some.inj hq).symm),own_turn ho t2 fun q hq e=>own_not ho hx (by decide) (e ▸ hq),own_turn hin t2 fun q hq e=>own_not hin hx (by decide) (e ▸ hq)⟩
theorem TnS.inTurn (h:TnS w0 fb rq bb nb bc qx bl p phv phl inv il kd av tv im w) (ho:OwnRow ficells 5 51 w0.heap.size w' inv il') (t:Turn (fun q=>inv.ownBlock=some q) w w'):TnS w0 fb rq bb nb bc qx bl p phv phl inv il' kd av tv im w':=
 ⟨t.toSince h.since fun q hq e=>by have:=(World.ownsRow.lt h.ins q e).1;omega,h.low,h.ne,h.fbox.turn t (own_not h.ins h.fbox (by decide)),h.rbox.turn t (own_not h.ins h.rbox (by decide)),h.xbox.turn t (own_not h.ins h.xbox (by decide)),own_turn h.row t fun q hq=>own_ne h.row h.ins (by decide) q hq,own_turn h.phis t fun q hq=>own_ne h.phis h.ins (by decide) q hq,ho⟩
theorem TnS.phTurn (h:TnS w0 fb rq bb nb bc qx bl p phv phl inv il kd av tv im w) (ho:OwnRow fpcells 2 60 w0.heap.size w' phv phl') (t:Turn (fun q=>phv.ownBlock=some q) w w'):TnS w0 fb rq bb nb bc qx bl p phv phl' inv il kd av tv im w':=
 ⟨t.toSince h.since fun q hq e=>by have:=(World.ownsRow.lt h.phis q e).1;omega,h.low,h.ne,h.fbox.turn t (own_not h.phis h.fbox (by decide)),h.rbox.turn t (own_not h.phis h.rbox (by decide)),h.xbox.turn t (own_not h.phis h.xbox (by decide)),own_turn h.row t fun q hq=>own_ne h.row h.phis (by decide) q hq,ho,own_turn h.ins t fun q hq=>own_ne h.ins h.phis (by decide) q hq⟩
def TnT (bb rq:Nat) (q:Nat):Prop:=q=bb∨q=rq
theorem TnS.late (h:TnS w0 fb rq bb nb bc qx bl p phv phl inv il kd av tv im w) (t:Turn (TnT bb rq) w w'):Since w0 w':=
 t.toSince h.since fun q hq e=>by
  rcases e with e|e
  ·have:=(World.ownsRow.lt h.row q (by rw[e];rfl)).1;omega
  ·have:=h.low;omega
theorem TnS.lateRow (h:TnS w0 fb rq bb nb bc qx bl p phv phl inv il kd av tv im w) {e : TypeId} {sz n base:Nat} {v : Value} {xs:List Value} (ho:w.ownsRow base e sz v n xs) (he:e≠24∧e≠57) (t:Turn (TnT bb rq) w w'):w'.ownsRow base e sz v n xs:=
 own_turn ho t fun q hq e1=>by
  rcases e1 with e1|e1
  ·exact own_ne ho h.row he.2 q hq (by rw[e1];rfl)
  ·exact own_not ho h.rbox he.1 (e1 ▸ hq)
theorem TnS.done (h:TnS w0 fb rq bb nb bc qx bl p phv phl inv il kd av tv im w) {ar tg:List Int} (hp:∀ x∈phl,∀ w',Turn (TnT bb rq) w w'→FPhiIn w' x) (hi:∀ x∈il,∀ w',Turn (TnT bb rq) w w'→FInsIn w' x) (ha:Ints w0 av ar) (ho:∀ w',Turn (TnT bb rq) w w'→Ints w' tv tg):∀ w',Turn (TnT bb rq) w w'→FBlkIn w' ⟨phl,phv,il,inv,⟨kd,ar,av,tg,tv,im⟩⟩:=fun w' t =>
 ⟨row_of_own fpcells_len (h.lateRow h.phis (by decide) t) fun x hx=>hp x hx w' t,row_of_own ficells_len (h.lateRow h.ins (by decide) t) fun x hx=>hi x hx w' t,ha.keep (h.late t),ho w' t⟩
theorem TnS.nums (h:TnS w0 fb rq bb nb bc qx bl p phv phl inv il kd av tv im w) {l : List Int} {v : Value} (ho:Ints w0 v l):∀ w',Turn (TnT bb rq) w w'→Ints w' v l:=fun w' t=>ho.keep (h.late t)
end
def stc (b:ByteArray):List Value:=[.string b]
theorem stc_len (b:ByteArray):(stc b).length=1:=rfl
abbrev StrsIn (w:World) (v:Value) (l:List ByteArray):Prop:=RowIn stc 1 (fun _ b=>b.size≤1000000) w v l
theorem StrsIn.keep {w w':World} {v : Value} {l : List ByteArray} (h:StrsIn w v l) (s:Since w w'):StrsIn w' v l:=RowIn.keep (fun _ _ _ h _=>h) h s
theorem StrsIn.at {w : World} {a : Option Addr} {n c:Nat} {l : List ByteArray} (h:StrsIn w (.slice a n c) l) {k : Nat} (hk:k<l.length):∃ b off x,a=some ⟨b,off,none⟩∧b<w.heap.size∧l[k]? = some x∧w.cell? ⟨b,off+k,none⟩=some (.string x)∧x.size≤1000000:=by
 obtain⟨b,off,x,h1,h2,h3,h4,h5⟩:=RowIn.at h hk
 have:=h4 0 (by decide)
 rw[Nat.mul_one,Nat.add_zero]at this
 exact⟨b,off,x,h1,h2,h3,this,h5⟩
def failE (e:Int) (b:Bool) (n:Int):Int:=if b=true∧e=0 then n else e
section
variable {w0:World} {pb:Nat} {params pl e:Int} {bv:Value} {bl:List FBlk}
end
def numsE (e:Int) (l:List ByteArray):Int:=if e=0∧areNums l=false then 71 else e
theorem numsE_next (e:Int) {l : List ByteArray} {k : Nat} {x : ByteArray} (h:l[k]? = some x):failE (numsE e (l.take k)) (!isNum x) 71=numsE e (l.take (k+1)):=by
 have ht:l.take (k+1)=l.take k++[x]:=by rw[List.take_add_one,h];rfl
 unfold numsE failE areNums
 rw[ht,List.all_append]
 cases h1:(l.take k).all isNum<;>cases h2:isNum x<;>by_cases he:e=0<;>simp[h2,he]
theorem numsE_nil (e:Int):numsE e []=e:=by unfold numsE areNums;simp
theorem numsW_next {l : List ByteArray} {k : Nat} {x : ByteArray} (h:l[k]? = some x):numsW (l.take (k+1))=numsW (l.take k)++[numW x]:=by
 unfold numsW;rw[List.take_add_one,h];simp
theorem numW_32 (x:ByteArray):In32W (numW x):=by
 unfold numW
 cases h:wparse x.data.toList with
 | none=>exact⟨by decide,by decide⟩
 | some v=>exact wparse_32 h
theorem Tryz.infoInt:(Tryz.prog.info? 3).map (fun i=>(i.zero,i.size,i.bytes))=some (some (.int .i64 0),1,8):=by kernel_rfl
section
variable {w0:World} {pb:Nat} {params pl e:Int} {bv:Value} {bl:List FBlk}
end
def dMeas (s u:Value):Nat:=2*(intOf u).toNat+(match s with | .string b=>if b.size=0 then 1 else 0 | _=>0)
theorem behind_ne {U u:Nat} {out:ByteArray} (h:Behind U u out) (hu:u<U∨U=0):out≠ByteArray.empty:=by
 intro e
 subst e
 unfold Behind at h
 split at h
 ·have:decB U=ByteArray.empty:=h.symm
  have h2:=congrArg (fun b:ByteArray=>b.data.toList) this
  exact decDigits_ne U h2
 ·have h2:Lib.decDigits u++[]=Lib.decDigits U:=h
  rw[List.append_nil]at h2
  have h3:=valD_digits u
  rw[h2,valD_digits]at h3
  omega
theorem conv_one (w:World) (c:Int):(convert 63 9 (.slice (some ⟨w.heap.size,0,none⟩) 1 1)).run Tryz.prog (w.alloc (.cells #[.int .u8 c] 5))=.ok (.string ⟨#[UInt8.ofNat c.toNat]⟩) (w.alloc (.cells #[.int .u8 c] 5)):=by
 rw[run_convert_bytes_string _ _ _ _ _ _ _ Tryz.underlying63 Tryz.underlying5 Tryz.underlying9]
 rw[run_bytesToString _ _ 1 1 [c] (by simp[go_sem])]
 rfl
theorem dig_u8 (u:Nat):(⟨#[UInt8.ofNat (48+(u:Int) % 10).toNat]⟩:ByteArray)=digB (u % 10):=by
 unfold digB
 rw[show (48+(u:Int) % 10).toNat=48+u % 10 from by omega]
theorem bytes_empty (b:ByteArray):b++⟨#[]⟩=b:=by
 apply bytes_ext;rw[bytes_app];simp
theorem dmeas_first (u d:Nat):dMeas (.string (digB d)) (.int .u64 ((u / 10:Nat):Int))<dMeas (.string ⟨#[]⟩) (.int .u64 (u:Int)):=by
 have e1:(digB d).size=1:=rfl
 have e2:(⟨#[]⟩:ByteArray).size=0:=rfl
 show 2*((u / 10:Nat):Int).toNat+(if (digB d).size=0 then 1 else 0)<2*(u:Int).toNat+(if (⟨#[]⟩:ByteArray).size=0 then 1 else 0)
 rw[e1,e2,if_neg (by decide),if_pos rfl]
 omega
theorem dmeas_next (u d:Nat) (out:ByteArray) (h:0<u):dMeas (.string (digB d++out)) (.int .u64 ((u / 10:Nat):Int))<dMeas (.string out) (.int .u64 (u:Int)):=by
 have e1:(digB d++out).size≠0:=by rw[ByteArray.size_append];have:(digB d).size=1:=rfl;omega
 show 2*((u / 10:Nat):Int).toNat+(if (digB d++out).size=0 then 1 else 0)<2*(u:Int).toNat+(if out.size=0 then 1 else 0)
 rw[if_neg e1]
 omega
theorem behind_len {U u:Nat} {out:ByteArray} (h:Behind U u out) (hU:U≤9223372036854775808):out.size≤22:=by
 have h1:=Lib.itoa_length_le (-(U:Int)) (by omega) (by omega)
 have h2:out.data.toList.length=out.size:=Array.length_toList
 have h3:(Lib.decDigits U).length≤22:=by
  by_cases h0:U=0
  ·subst h0;rw[decDigits_small (by decide)];simp
  ·rw[itoa_neg (by omega)]at h1
   simp only[List.length_cons,Int.natAbs_neg,Int.natAbs_natCast]at h1
   omega
 unfold Behind at h
 split at h
 ·rw[h]at h2
  have h4:(decB U).data.toList.length=(Lib.decDigits U).length:=rfl
  rw[h];omega
 ·rw[←h,List.length_append]at h3;omega
set_option maxHeartbeats 2000000 in
set_option maxRecDepth 100000 in
theorem rd_any (n:Int) (w:World) (hn:In64 n):Calls Tryz.prog 27 #[.int .i64 n] w (StrQ ⟨(dS n).toArray⟩ w):=by
 obtain⟨U,hU⟩:∃ U:Nat,n.natAbs=U:=⟨_,rfl⟩
 obtain⟨hn1,hn2⟩:=hn
 have hUl:U≤9223372036854775808:=by omega
 by_cases hneg:n<0
 ·obtain rfl:n=-(U:Int):=by omega
  have HT:=Lib.hid (show (⟨#[32]⟩:ByteArray)++(⟨#[45]⟩++decB U)=⟨(dS (-(U:Int))).toArray⟩ from by
   apply bytes_ext
   rw[bytes_app,bytes_app]
   unfold decB dS
   rw[itoa_neg hneg,hU];rfl)
  have HW:=Lib.hid (show IntKind.u64.wrap (-IntKind.u64.wrap (-(U:Int)))=(U:Int) from by unfold IntKind.wrap;simp[IntKind.signed,IntKind.bits];omega)
  clear hU
  go_enter Tryz.func27,Tryz.ntmps27
  go_wp2_with fail
  go_loopw [3,4] (fun so uo wr=>∃ (u:Nat) (out:ByteArray),so=.string out∧uo=.int .u64 u∧u≤U∧((u=U∧out=⟨#[]⟩)∨((u<U∨U=0)∧Behind U u out))∧Since w wr) (fun so uo _=>dMeas so uo)
  case atStart=>exact⟨U,_,rfl,by rw[HW.out],Nat.le_refl _,.inl ⟨rfl,rfl⟩,Since.refl _⟩
  case round =>
   obtain⟨u,out,rfl,rfl,huU,hB,hs⟩:=hrel
   have HS:=Lib.hid hs
   clear hs
   rcases hB with ⟨rfl,rfl⟩|⟨hlu,hB⟩
   ·have HN:=Lib.hid (behind_first u)
    have hcv:=conv_one wr (48+(u:Int) % 10)
    rw[dig_u8]at hcv
    have HM:=Lib.hid (dmeas_first u (u % 10))
    have he:=bytes_empty (digB (u % 10))
    have hz:(digB (u % 10)).size=1:=rfl
    by_cases h0:0<u
    ·go_wp2
     go_roundw
     case rel=>exact⟨u / 10,_,rfl,by simp,by omega,.inr ⟨by omega,HN.out⟩,HS.out.alloc _⟩
     case measure=>simpa using HM.out
    ·exfalso;omega
   ·have hz:=behind_len hB (by omega)
    have hne:(out.toList==[])=false:=by rw[ByteArray.toList_eq,beq_eq_false_iff_ne];intro e;exact behind_ne hB hlu (bytes_ext e)
    have HNE:=Lib.hid (behind_ne hB hlu)
    have HB:=Lib.hid hB
    clear hB
    by_cases h0:0<u
    ·have HN:=Lib.hid (behind_next HB.out (by omega))
     have hcv:=conv_one wr (48+(u:Int) % 10)
     rw[dig_u8]at hcv
     have hz1:(digB (u % 10)).size=1:=rfl
     have HM:=Lib.hid (dmeas_next u (u % 10) out h0)
     go_wp2
     go_roundw
     case rel=>exact⟨u / 10,_,rfl,by simp,by omega,.inr ⟨by omega,HN.out⟩,HS.out.alloc _⟩
     case measure=>simpa using HM.out
    ·obtain rfl:0=u:=by omega
     obtain rfl:out=decB U:=by have:=HB.out;unfold Behind at this;rwa [if_pos rfl]at this
     go_wp2
     try rw[HT.out]
     go_ret
     exact⟨rfl,HS.out⟩
 ·obtain rfl:n=(U:Int):=by omega
  have HT:=Lib.hid (show (⟨#[32]⟩:ByteArray)++decB U=⟨(dS (U:Int)).toArray⟩ from by
   apply bytes_ext
   rw[bytes_app]
   unfold decB dS
   rw[itoa_pos hneg];rfl)
  clear hU
  go_enter Tryz.func27,Tryz.ntmps27
  go_wp2_with fail
  go_loopw [3,4] (fun so uo wr=>∃ (u:Nat) (out:ByteArray),so=.string out∧uo=.int .u64 u∧u≤U∧((u=U∧out=⟨#[]⟩)∨((u<U∨U=0)∧Behind U u out))∧Since w wr) (fun so uo _=>dMeas so uo)
  case atStart=>exact⟨U,_,rfl,rfl,Nat.le_refl _,.inl ⟨rfl,rfl⟩,Since.refl _⟩
  case round =>
   obtain⟨u,out,rfl,rfl,huU,hB,hs⟩:=hrel
   have HS:=Lib.hid hs
   clear hs
   rcases hB with ⟨rfl,rfl⟩|⟨hlu,hB⟩
   ·have HN:=Lib.hid (behind_first u)
    have hcv:=conv_one wr (48+(u:Int) % 10)
    rw[dig_u8]at hcv
    have HM:=Lib.hid (dmeas_first u (u % 10))
    have he:=bytes_empty (digB (u % 10))
    have hz:(digB (u % 10)).size=1:=rfl
    by_cases h0:0<u
    ·go_wp2
     go_roundw
     case rel=>exact⟨u / 10,_,rfl,by simp,by omega,.inr ⟨by omega,HN.out⟩,HS.out.alloc _⟩
     case measure=>simpa using HM.out
    ·go_wp2
     go_roundw
     case rel=>exact⟨u / 10,_,rfl,by simp,by omega,.inr ⟨by omega,HN.out⟩,HS.out.alloc _⟩
     case measure=>simpa using HM.out
   ·have hz:=behind_len hB (by omega)
    have hne:(out.toList==[])=false:=by rw[ByteArray.toList_eq,beq_eq_false_iff_ne];intro e;exact behind_ne hB hlu (bytes_ext e)
    have HNE:=Lib.hid (behind_ne hB hlu)
    have HB:=Lib.hid hB
    clear hB
    by_cases h0:0<u
    ·have HN:=Lib.hid (behind_next HB.out (by omega))
     have hcv:=conv_one wr (48+(u:Int) % 10)
     rw[dig_u8]at hcv
     have hz1:(digB (u % 10)).size=1:=rfl
     have HM:=Lib.hid (dmeas_next u (u % 10) out h0)
     go_wp2
     go_roundw
     case rel=>exact⟨u / 10,_,rfl,by simp,by omega,.inr ⟨by omega,HN.out⟩,HS.out.alloc _⟩
     case measure=>simpa using HM.out
    ·obtain rfl:0=u:=by omega
     obtain rfl:out=decB U:=by have:=HB.out;unfold Behind at this;rwa [if_pos rfl]at this
     go_wp2
     try rw[HT.out]
     go_ret
     exact⟨rfl,HS.out⟩
theorem bs_app (a b:Bs):(⟨a.toArray⟩:ByteArray)++⟨b.toArray⟩=⟨(a++b).toArray⟩:=by apply bytes_ext;rw[bytes_app]
theorem bs_size (a:Bs):(⟨a.toArray⟩:ByteArray).size=a.length:=by rw[←bytes_len]
set_option maxHeartbeats 1000000 in
set_option maxRecDepth 100000 in
theorem rall_any (v:Value) (l:List Int) (w:World) (hl:Ints w v l) (hr:∀ x∈l,In64 x) (hn:(allS l).length≤1000000000000):Calls Tryz.prog 50 #[v] w (StrQ ⟨(allS l).toArray⟩ w):=by
 obtain⟨a,c,rfl⟩:=nums_lenI hl
 have hll:=Nums.len hl
 unfold maxLen at hll
 have HL:=Lib.hid hl
 have HR:=Lib.hid hr
 have HN:=Lib.hid hn
 clear hl hr hn
 go_enter Tryz.func50,Tryz.ntmps50
 go_wp2_with fail
 go_loopw [3,4] (fun so io wr=>∃ (k:Nat) (out:ByteArray),out=⟨((l.take k).flatMap dS).toArray⟩∧so=.string out∧io=.int .i64 k∧k≤l.length∧Since w wr) (fun _ io _=>l.length-(intOf io).toNat)
 case atStart=>exact⟨0,⟨#[]⟩,rfl,rfl,rfl,Nat.zero_le _,Since.refl _⟩
 case round =>
  obtain⟨k,out,ho,rfl,rfl,hk,hs⟩:=hrel
  have HO:=Lib.hid ho
  have HS:=Lib.hid hs
  by_cases hlt:k<l.length
  ·obtain⟨b,off,x,rfl,hb,hx,hc⟩:=nums_at HL.out hlt
   have hcx:=(hs.cell (p:=⟨b,off+k,none⟩) hb).trans hc
   have hbl:b<wr.heap.size:=Nat.lt_of_lt_of_le hb hs.size
   obtain⟨z,hz⟩:∃ z:ByteArray,⟨(dS x).toArray⟩=z:=⟨_,rfl⟩
   have hd:=rd_any x wr (HR.out x (List.mem_of_getElem? hx))
   rw[hz]at hd
   have HD:=Lib.hid hd
   have hzz:¬ 9223372036854775807<out.size+z.size:=by
    rw[ho,←hz,bs_size,bs_size]
    have h1:=flat_take dS l (k+1)
    rw[flat_next dS hx,List.length_append]at h1
    have:=HN.out
    unfold allS at this
    omega
   have HX:=Lib.hid (show out++z=⟨((l.take (k+1)).flatMap dS).toArray⟩ from by rw[ho,←hz,bs_app,flat_next dS hx])
   clear hd hs ho hz hx hc hb
   go_wp2_with fail
   refine HD.out.mono ?_
   rintro e w2 ⟨rfl,hs2⟩
   have HS2:=Lib.hid (HS.out.trans hs2)
   clear hs2
   go_wp2
   go_roundw
   case rel=>exact⟨k+1,_,HX.out,rfl,by go_num,by omega,HS2.out⟩
   case measure=>simp[intOf];omega
  ·obtain rfl:l.length=k:=by omega
   rw[List.take_length]at HO
   clear ho hs
   go_wp2
   go_ret
   exact⟨by rw[HO.out];rfl,HS.out⟩
end Go.Proofs.YtmhojfpidedjeaaGreatDoor
