/- Ranges of a function's numbers; rows of the call's own as rows that are read; lengths of texts. A builder that a call has made, and the lines that go into it. Plain: how long a function's text is at most. -/
import Derived.Test.YtmhojfpidedjeaaGreatDoorRz04
import Derived.Test.YtmhojfpidedjeaaGreatDoorRz05
import Derived.Test.YtmhojfpidedjeaaGreatDoorRz06
namespace Go.Proofs.YtmhojfpidedjeaaGreatDoor
open Go.RowKit
set_option linter.unusedVariables false
structure PhiR (p:FPhi):Prop where
 dst:In64 p.dst
 ins:∀ y∈p.ins,In64 y.1∧In64 y.2
structure TermR (t:FTerm):Prop where
 kd:In64 t.kind
 ar:∀ y∈t.args,In64 y
 tg:∀ y∈t.to,In64 y
 im:In32W t.imm
structure BlkR (b:FBlk):Prop where
 phis:∀ p∈b.phis,PhiR p
 ins:∀ i∈b.ins,InsR i
 term:TermR b.term
structure FnR (f:FnV):Prop where
 params:In64 f.params
 blocks:∀ b∈f.blocks,BlkR b
def NewRow (cs:Array Value) (T:TypeId) (n:Nat) (v:Value) (w:World):Prop:=∃ g,v=.slice (some ⟨g,0,none⟩) n n∧HeapIs w g cs T
theorem NewRow.stable (cs:Array Value) (T:TypeId) (n:Nat):Stable (NewRow cs T n):=fun _ _ _ h hs=>by
 obtain⟨g,h1,h2⟩:=h
 exact⟨g,h1,h2.keep hs⟩
theorem wpList_append_row {α:Type} {P : Program} {w0 w:World} {ops:Array Oper} {rest:List Oper} {o : Oper} {a : Act} {Q : Exit→Act→World→Prop} (f:α→List Value) (hf1:∀ x,(f x).length=1) (hone:∀ x,∀ u∈f x,u.oneCell'=true) (hgd:o.guard=none) (s x:Operand) (t:TypeId)
  (ho:o.op=.call { callee:=.builtin .append,args:=#[s,x],argTypes:=#[t,t] })
  (e:TypeId) (z:Value) (bytes:Nat) (ht:P.underlying t=some (.slice e)) (hinfo:(P.info? e).map (fun i=>(i.zero,i.size,i.bytes))=some (some z,1,bytes)) (hz:z.cells.size=1) (hby:bytes≤16)
  (v xv:Value) (l1 l2:List α) (hs:a.eval s=v) (hx:a.eval x=xv) (hown:OwnRow f 1 e w0.heap.size w v l1) {p : World→α→Prop} (hl2:RowIn f 1 p w xv l2)
  (hlen:l1.length+l2.length≤1000000) (hsince:Since w0 w)
  (h:∀ v' w',OwnRow f 1 e w0.heap.size w' v' (l1++l2)→Since w0 w'→wpList P ops Q rest (a.put o.dst v') w'):wpList P ops Q (o::rest) a w:=by
 obtain⟨i,hi,hz0,hz1,hz2⟩:=info_parts hinfo
 have hgr:∀ (w':World),w.grownBy w' v.ownBlock→Since w0 w':=by
  intro w' hgrow
  refine Below.grown hsince hgrow hsince.size ?_
  intro r hr
  obtain⟨_,⟨hv,_⟩|⟨g,cap,cur,hv,hg,_⟩⟩:=hown
  ·subst hv;cases hr
  ·subst hv;cases hr;exact hg
 unfold OwnRow at hown
 rcases hl2 with ⟨ad,hv,rfl⟩|⟨b,off,cap,hv,hcap,_,hb,hcell⟩
 ·subst hv
  cases ad with
  | none =>
   refine wpList_append_own_none hgd s x t ho w0.heap.size e i 1 ht hi v _ _ hs hown hx (h v w ?_ hsince)
   unfold OwnRow;simpa using hown
  | some ad =>
   refine wpList_append_own _ hgd s x t ho w0.heap.size e i z 1 bytes ht hi hz0 hz1 hz2 hz (by decide) v _ _ hs hown ad 0 0 [] hx rfl (fun j u hu=>by cases hu) (fun u hu=>by cases hu) (by unfold maxLen;simp at hlen;omega) ?_ hsince.size ?_
   ·have:(l1.length+0)*bytes≤1000000*16:=Nat.mul_le_mul (by simpa using hlen) hby
    omega
   ·intro v' w' hown' hgrow _
    exact h v' w' (by unfold OwnRow;simpa using hown') (hgr w' hgrow)
 ·subst hv
  refine wpList_append_own _ hgd s x t ho w0.heap.size e i z 1 bytes ht hi hz0 hz1 hz2 hz (by decide) v _ _ hs hown ⟨b,off,none⟩ l2.length cap (l2.flatMap f) hx (by rw[flat_len f 1 hf1]) ?_ ?_ (by unfold maxLen;omega) ?_ hsince.size ?_
  ·intro j u hu
   have hj:j<l2.length:=by have:=(List.getElem?_eq_some_iff.1 hu).1;rw[flat_len f 1 hf1]at this;omega
   obtain⟨y,hy⟩:∃ y,l2[j]? = some y:=⟨_,List.getElem?_eq_getElem hj⟩
   have h2:=(hcell j y hy).1 0 (by decide)
   rw[Nat.mul_one,Nat.add_zero]at h2
   have h3:=flat_at f 1 hf1 l2 j 0 y hy (by decide)
   rw[Nat.mul_one,Nat.add_zero,hu]at h3
   rw[←h3]at h2
   unfold Addr.add
   split
   ·rename_i h0;subst h0;simpa using h2
   ·exact h2
  ·intro u hu
   obtain⟨y,_,hy⟩:=List.mem_flatMap.1 hu
   exact hone y u hy
  ·have:(l1.length+l2.length)*bytes≤1000000*16:=Nat.mul_le_mul hlen hby
   omega
  ·intro v' w' hown' hgrow _
   exact h v' w' (by unfold OwnRow;simpa using hown') (hgr w' hgrow)
theorem itc_len (x:It):(itc x).length=1:=by cases x<;>rfl
theorem itc_one (x:It):∀ u∈itc x,u.oneCell'=true:=by cases x<;>(intro u hu;simp[itc]at hu;subst hu;rfl)
theorem its_own {B b base:Nat} {w : World} {v : Value} {its:List It} (h:OwnRow itc 1 20 base w v its) (hlt:∀ q,v.ownBlock=some q→q≠b) (hw:∀ x∈its,∀ w',Kept B b w w'→ItIn w' x) :
  ∀ w',Kept B b w w'→ItsIn w' v its:=by
 intro w' hk
 obtain⟨h0,⟨rfl,hn⟩|⟨g,cap,cur,hv,hg,hb,hc,hm,hs,htake⟩⟩:=h
 ·exact .inl ⟨none,rfl,List.length_eq_zero_iff.1 hn⟩
 ·subst hv
  have hb2:=hk.heap hb (hlt g rfl) (by decide)
  refine .inr ⟨g,0,cap,rfl,hc,hm,(Array.getElem?_eq_some_iff.1 hb2).1,fun j x hx=>⟨fun t ht=>?_,hw x (List.mem_of_getElem? hx) w' hk⟩⟩
  obtain rfl:t=0:=by omega
  have h3:=flat_at itc 1 itc_len its j 0 x hx (by decide)
  have hj:j<its.length:=(List.getElem?_eq_some_iff.1 hx).1
  rw[←h3,←htake]
  simp only[World.cell?,hb2,Nat.mul_one,Nat.add_zero,Nat.zero_add]
  rw[List.getElem?_take_of_lt (by omega)]
  simp
theorem blks_next {l : List DBlk} {k : Nat} {x : DBlk} (h:l[k]? = some x):blksS l (k+1)=blksS l k++blkS k x:=by
 unfold blksS
 rw[List.range_succ,List.flatMap_append]
 simp[blkAt,h]
theorem blks_le (l:List DBlk):∀ (n k:Nat),k≤n→(blksS l k).length≤(blksS l n).length
 | 0,k,h=>by rw[show k=0 from by omega];exact Nat.le_refl _
 | n+1,k,h=>by
  by_cases hk:k=n+1
  ·rw[hk];exact Nat.le_refl _
  ·have h1:=blks_le l n k (by omega)
   have h2:blksS l (n+1)=blksS l n++blkAt l n:=by unfold blksS;rw[List.range_succ,List.flatMap_append];simp
   rw[h2,List.length_append];omega
theorem blk_len (k:Nat) (x:DBlk):(blkS k x).length=6+(dS k).length+((x.phis.flatMap fun p=>phiS p++[10]).length+((x.ins.flatMap fun i=>insS i++[10]).length+((termS x.term).length+1))):=by
 unfold blkS bodyS
 simp only[List.length_append,List.length_cons,List.length_nil];omega
theorem bu_new (w:World) (o:Obj):Bu w.heap.size (w.heap.size+1) [] ((w.alloc o).alloc (.cells #[.pointer none,.slice none 0 0] 67)):=by
 refine .inl ⟨by omega,.slice none 0 0,?_,⟨rfl,.inl ⟨rfl,rfl⟩⟩,by simp[Value.ownBlock]⟩
 have h:=heap_last (w.alloc o) (.cells #[.pointer none,.slice none 0 0] 67)
 rw[show (w.alloc o).heap.size=w.heap.size+1 from by simp]at h
 exact h
theorem own_new {α:Type} (f:α→List Value) (sz:Nat) (e:TypeId) (w:World) (l:List α) (n:Nat) (hf:∀ x,(f x).length=sz) (hn:n=l.length) (hm:n≤1000) (cs:Array Value) (hcs:cs=(l.flatMap f).toArray):OwnRow f sz e w.heap.size (w.alloc (.cells cs e)) (.slice (some ⟨w.heap.size,0,none⟩) n n) l:=by
 subst hn;subst hcs
 have h:=flat_len f sz hf l
 refine⟨h,.inr ⟨w.heap.size,l.length,_,rfl,Nat.le_refl _,heap_last _ _,Nat.le_refl _,by unfold maxLen;omega,by rw[List.size_toArray];exact h,?_⟩⟩
 rw[←h]
 exact List.take_length
theorem ItIn.keep {w w':World} {x : It} (h:ItIn w x) (s:Since w w'):ItIn w' x:=by
 cases x with
 | ns v l=>exact⟨Nums.keep h.1 s,h.2⟩
 | n x=>exact h
 | w x=>exact h
 | s x=>trivial
structure PrG (w wB:World) (b:Nat) (A:Bs) (W:World):Prop where
 bu:Bu w.heap.size b A W
 kept:Kept w.heap.size b wB W
 s0:Since w wB
 hw:b<wB.heap.size
 laid:LaidT w
abbrev PrS (w wB:World) (A:Bs) (W:World):Prop:=PrG w wB (w.heap.size+1) A W
theorem PrG.since {w wB:World} {b : Nat} {A : Bs} {W : World} (h:PrG w wB b A W):Since w W:=Below.trans h.s0 h.kept.below
theorem PrG.size {w wB:World} {b : Nat} {A : Bs} {W : World} (h:PrG w wB b A W):w.heap.size≤W.heap.size:=h.since.size
theorem PrG.keep {w wB:World} {b : Nat} {A : Bs} {W W':World} (h:PrG w wB b A W) (s:Since W W'):PrG w wB b A W':=⟨Bu.keep h.bu s,h.kept.trans (Kept.since s h.size),h.s0,h.hw,h.laid⟩
theorem PrG.lt {w wB:World} {b : Nat} {A : Bs} {W : World} (h:PrG w wB b A W):b<W.heap.size:=Nat.lt_of_lt_of_le h.hw h.kept.size
def PrQ (w wB:World) (b:Nat) (A:Bs) (W:World) (e:Ending) (W':World):Prop:=e=.returned (.tuple #[])∧PrG w wB b A W'∧Kept w.heap.size b W W'
theorem pr_row {w wB W:World} {b : Nat} {A : Bs} (h:PrG w wB b A W) (W1:World) (s:Since W W1) (first:ByteArray) (its:List It) (v:Value) (hR:∀ w',Kept w.heap.size b W1 w'→ItsIn w' v its) (hlen:A.length+(first.size+(its.flatMap itS).length)≤1000000000000) :
  Calls Tryz.prog 22 #[.pointer (some ⟨b,0,none⟩),.string first,v] W1 (PrQ w wB b (A++(first.data.toList++(its.flatMap itS++[10]))) W):=by
 have h1:=h.keep s
 refine (line_any w.heap.size b A first v its W1 h1.bu h1.size hR (fun w9 h9=>h.laid.keep (Below.trans h1.since h9.below)) hlen).mono ?_
 rintro e w2 ⟨rfl,h2,h3⟩
 exact⟨rfl,⟨h2,h1.kept.trans h3,h.s0,h.hw,h.laid⟩,(Kept.since s h.size).trans h3⟩
theorem pr_line {w wB W:World} {b : Nat} {A : Bs} (h:PrG w wB b A W) (first:ByteArray) (its:List It) (n:Nat) (cs:Array Value) (q:Nat) (hq:W.heap.size=q) (hcs:cs=(its.flatMap itc).toArray) (hn:n=its.length) (hm:its.length≤1000) (hit:∀ x∈its,ItIn w x) (hlen:A.length+(first.size+(its.flatMap itS).length)≤1000000000000) :
  Calls Tryz.prog 22 #[.pointer (some ⟨b,0,none⟩),.string first,.slice (some ⟨q,0,none⟩) n n] (W.alloc (.cells cs 20)) (PrQ w wB b (A++(first.data.toList++(its.flatMap itS++[10]))) W):=by
 subst hq
 exact pr_row h _ ((Since.refl W).alloc _) first its _ (its_new its cs n hcs hn hm (by have:=h.lt;omega) (fun x hx w' hk=>(hit x hx).keep (Below.trans h.since hk.below)) h.size) hlen
theorem pr_line0 {w wB W:World} {b : Nat} {A : Bs} (h:PrG w wB b A W) (first:ByteArray) (hlen:A.length+first.size≤1000000000000) :
  Calls Tryz.prog 22 #[.pointer (some ⟨b,0,none⟩),.string first,.slice none 0 0] W (PrQ w wB b (A++(first.data.toList++[10])) W):=
 pr_row h _ (Since.refl W) first [] _ (fun _ _=>.inl ⟨_,rfl,rfl⟩) (by simpa using hlen)
theorem pr_ins {w wB W:World} {b : Nat} {A : Bs} (h:PrG w wB b A W) (x:FIns) (hx:FInsIn w x) (hr:InsR x) (hlen:A.length+(insS x.d).length≤999999999999) :
  Calls Tryz.prog 24 #[.pointer (some ⟨b,0,none⟩),fiv x] W (PrQ w wB b (A++(insS x.d++[10])) W):=by
 refine (wins_any w.heap.size b A x W h.bu h.size (fun w' hk=>Nums.keep hx (Below.trans h.since hk.below)) hr (fun w9 h9=>h.laid.keep (Below.trans h.since h9.below)) hlen).mono ?_
 rintro e w2 ⟨rfl,h2,h3⟩
 exact⟨rfl,⟨h2,h.kept.trans h3,h.s0,h.hw,h.laid⟩,h3⟩
theorem pr_says {w wB W:World} {b : Nat} {A : Bs} (h:PrG w wB b A W) (h0:A≠[]):Calls Tryz.prog 26 #[.pointer (some ⟨b,0,none⟩)] W (StrQ ⟨A.toArray⟩ w):=by
 refine (bu_says _ _ A W h.bu h0).mono ?_
 rintro e w2 ⟨rfl,h2⟩
 exact⟨rfl,Below.trans h.since h2.below⟩
theorem PrQ.box {w W W':World} {b q:Nat} {cs:Array Value} {T : TypeId} (k:Kept w.heap.size b W W') (h:HeapIs W q cs T) (hq:b<q) (hT:T≠5):HeapIs W' q cs T:=h.kept k (by omega) hT
theorem flat_le {α:Type} (f:α→Bs) (k:Nat):∀ (l:List α),(∀ x∈l,(f x).length≤k)→(l.flatMap f).length≤k*l.length
 | [],_=>by simp
 | x::r,h=>by
  rw[List.flatMap_cons,List.length_append,List.length_cons,Nat.mul_succ]
  have h1:=h x (List.mem_cons_self ..)
  have h2:=flat_le f k r fun y hy=>h y (List.mem_cons_of_mem _ hy)
  omega
theorem flat_le2 {α:Type} (f:α→Bs) (k n:Nat) (l:List α) (h:∀ x∈l,(f x).length≤k) (hn:l.length≤n):(l.flatMap f).length≤k*n:=
 Nat.le_trans (flat_le f k l h) (Nat.mul_le_mul_left k hn)
theorem allS_le (l:List Int) (n:Nat) (h:∀ x∈l,In64 x) (hn:l.length≤n):(allS l).length≤22*n:=flat_le2 dS 22 n l (fun x hx=>dS_len x (h x hx)) hn
theorem names_le:∀ i,i<18→(opNames.getD i ByteArray.empty).data.toList.length≤6:=by decide
theorem opS_le (op:Int):(opS op).length≤6:=by
 unfold opS nameF
 split
 ·decide
 ·exact names_le _ (by omega)
theorem terms_le:∀ i,i<5→(termNames.getD i ByteArray.empty).data.toList.length≤6:=by decide
theorem termB_le (k:Int):(termB k).data.toList.length≤6:=by
 unfold termB
 split
 ·decide
 ·exact terms_le _ (by omega)
theorem in64_32 {x : Int} (h:In32W x):In64 x:=⟨by have:=h.1;omega,by have:=h.2;omega⟩
theorem insS_le (x:FIns) (A:Nat) (h:InsR x) (hn:x.args.length≤A):(insS x.d).length≤60+22*A:=by
 have h1:=opS_le x.op
 have h2:=dS_len x.dst h.dst
 have h3:=dS_len x.two h.two
 have h4:=dS_len x.imm (in64_32 h.imm)
 have h5:=allS_le x.args A h.args hn
 unfold insS FIns.d
 dsimp only
 split
 ·simp only[List.length_append];omega
 ·split
  ·simp only[List.length_append];omega
  ·split
   ·simp only[List.length_append];omega
   ·split
    ·simp only[List.length_append];omega
    ·split
     ·simp only[List.length_append];omega
     ·split
      ·simp only[List.length_append];omega
      ·show 1≤_;omega
theorem termS_le (x:FTerm) (T:Nat) (h:TermR x) (h1:x.args.length≤T) (h2:x.to.length≤T):(termS x.d).length≤40+44*T:=by
 have h3:=termB_le x.kind
 have h4:=dS_len x.imm (in64_32 h.im)
 have h5:=allS_le x.args T h.ar h1
 have h6:=allS_le x.to T h.tg h2
 unfold termS FTerm.d
 dsimp only
 split
 ·show 1≤_;omega
 ·split
  ·simp only[List.length_append];omega
  ·simp only[List.length_append];omega
theorem pairS_le (y:Int × Int) (h:In64 y.1∧In64 y.2):(pairS y).length≤44:=by
 have h1:=dS_len y.1 h.1
 have h2:=dS_len y.2 h.2
 unfold dS at h2
 unfold pairS
 simp only[List.length_append,List.length_cons]at h2 ⊢
 omega
theorem phiS_le (p:FPhi) (K:Nat) (h:PhiR p) (hn:p.ins.length≤K):(phiS p.d).length≤25+44*K:=by
 have h1:=dS_len p.dst h.dst
 have h2:=flat_le2 pairS 44 K p.ins (fun y hy=>pairS_le y (h.ins y hy)) hn
 unfold phiS FPhi.d
 dsimp only
 simp only[List.length_append,List.length_cons,List.length_nil]
 omega
structure FnLe (f:FnV) (B P K I A T:Nat):Prop where
 n:f.blocks.length≤B
 phis:∀ b∈f.blocks,b.phis.length≤P
 phi:∀ b∈f.blocks,∀ p∈b.phis,p.ins.length≤K
 ins:∀ b∈f.blocks,b.ins.length≤I
 inx:∀ b∈f.blocks,∀ i∈b.ins,i.args.length≤A
 ar:∀ b∈f.blocks,b.term.args.length≤T
 tg:∀ b∈f.blocks,b.term.to.length≤T
theorem blkS_le (k:Nat) (b:FBlk) (P K I A T:Nat) (hk:k≤1000000) (hr:BlkR b) (h1:b.phis.length≤P) (h2:∀ p∈b.phis,p.ins.length≤K) (h3:b.ins.length≤I) (h4:∀ i∈b.ins,i.args.length≤A) (h5:b.term.args.length≤T) (h6:b.term.to.length≤T) :
  (blkS k b.d).length≤80+(26+44*K)*P+(61+22*A)*I+44*T:=by
 have g1:=dS_len (k:Int) ⟨by omega,by omega⟩
 have g2:(b.d.phis.flatMap fun p=>phiS p++[10]).length≤(26+44*K)*P:=by
  refine flat_le2 _ _ P _ (fun x hx=>?_) (by show (b.phis.map FPhi.d).length≤P;rw[List.length_map];exact h1)
  obtain⟨p,hp,rfl⟩:=List.mem_map.1 (show x∈b.phis.map FPhi.d from hx)
  have:=phiS_le p K (hr.phis p hp) (h2 p hp)
  rw[List.length_append,List.length_singleton];omega
 have g3:(b.d.ins.flatMap fun i=>insS i++[10]).length≤(61+22*A)*I:=by
  refine flat_le2 _ _ I _ (fun x hx=>?_) (by show (b.ins.map FIns.d).length≤I;rw[List.length_map];exact h3)
  obtain⟨p,hp,rfl⟩:=List.mem_map.1 (show x∈b.ins.map FIns.d from hx)
  have:=insS_le p A (hr.ins p hp) (h4 p hp)
  rw[List.length_append,List.length_singleton];omega
 have g4:=termS_le b.term T hr.term h5 h6
 have g5:b.d.term=b.term.d:=rfl
 rw[blk_len,g5]
 omega
theorem funcS_le (f:FnV) (hr:FnR f) (B P K I A T:Nat) (h:FnLe f B P K I A T) (hB:B≤1000000) :
  (funcS f.d).length≤30+(80+(26+44*K)*P+(61+22*A)*I+44*T)*B:=by
 have g1:=dS_len f.params hr.params
 have g2:(blksS f.d.blocks f.d.blocks.length).length≤(80+(26+44*K)*P+(61+22*A)*I+44*T)*B:=by
  have hl:f.d.blocks.length=f.blocks.length:=by show (f.blocks.map FBlk.d).length=_;rw[List.length_map]
  refine flat_le2 _ _ B _ (fun k hk=>?_) (by rw[List.length_range,hl];exact h.n)
  have hk':=List.mem_range.1 hk
  rw[hl]at hk'
  have hb:f.d.blocks[k]? = some f.blocks[k].d:=by
   show (f.blocks.map FBlk.d)[k]? = _
   rw[List.getElem?_map,List.getElem?_eq_getElem hk'];rfl
  have hm:f.blocks[k]∈f.blocks:=List.getElem_mem hk'
  unfold blkAt
  rw[hb]
  have:=h.n
  exact blkS_le k _ P K I A T (by omega) (hr.blocks _ hm) (h.phis _ hm) (h.phi _ hm) (h.ins _ hm) (h.inx _ hm) (h.ar _ hm) (h.tg _ hm)
 unfold funcS
 simp only[List.length_append,List.length_cons,List.length_nil]
 have:f.d.params=f.params:=rfl
 rw[this]
 omega
theorem pats_le:∀ i,i<37→(patNames.getD i ByteArray.empty).data.toList.length≤6:=by decide
theorem patS_le (p:Int):(patS p).length≤6:=by
 unfold patS patB
 split
 ·decide
 ·exact pats_le _ (by omega)
theorem tileS_le (t:DTile) (h:In64 t.cost):(tileS t).length≤34:=by
 have h1:=patS_le t.pat
 have h2:=dS_len t.cost h
 unfold tileS
 simp only[List.length_append,List.length_cons,List.length_nil]
 omega
theorem tilesS_le (l:List DTile) (n:Nat) (h:∀ t∈l,In64 t.cost) (hn:l.length≤n):(tilesS l).length≤34*n:=flat_le2 tileS 34 n l (fun t ht=>tileS_le t (h t ht)) hn
end Go.Proofs.YtmhojfpidedjeaaGreatDoor
