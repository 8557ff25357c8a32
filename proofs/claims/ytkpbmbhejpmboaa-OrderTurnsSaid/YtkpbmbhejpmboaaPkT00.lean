/- A region that draws its order, by what is known of each operation's value: whatever order is drawn, each operation runs when those it stands behind have run; what is known of their values is such that later memory does not turn it. One proof an operation serves all orders. How what came in is read:  -/
import Derived.Test.YtkpbmbhejpmboaaPkB00
import Derived.Test.YtkpbmbhejpmboaaPkB03
import Derived.Test.YtkpbmbhejpmboaaPkB08
import Derived.Test.YtkpbmbhejpmboaaPkB09
import Derived.Test.YtkpbmbhejpmboaaPkB13
import Derived.Test.YtkpbmbhejpmboaaPkB15
import Derived.Test.YtkpbmbhejpmboaaPkB22
import Derived.Test.YtkpbmbhejpmboaaPkB44
import Derived.Test.YtkpbmbhejpmboaaRows
import Derived.WalkKit
import Derived.WalkSpells
import Derived.WalkLawsBesides
import Derived.Lib.Hide
import Derived.Laws.AppendOwnNone
import Derived.RegionTactic
import Derived.Deep.Slices
import Derived.WideShapes
import Derived.Laws.EntriesVeiled
import Derived.Lib.AppendZeros
import Derived.Deep.QuietTactic
import Derived.BigQuiet
import Derived.ChangeAlike
import Derived.RangeFuncNested
import Derived.RangeFuncBound
import Derived.RangeFuncCalls
import Derived.RangeFuncLeaves
import Derived.Shelf.Abstract
import Derived.Shelf.RegionOpen
import Derived.OwnWalkIn
import Derived.TacticsInMore
import Derived.LoopNIn
import Derived.LoopIn
import Derived.OwnWalk
import Derived.Laws.CopyOwn
import Derived.Laws.BitsLemmas
import Derived.Laws.Rows
import Derived.Deep.CutBlock
import Derived.Deep.MidRow
namespace Go.Proofs.Ytkpbmbhejpmboaa
open Go.RowKit Lib
section
variable {P : Program} {Q : Exit→Act→World→Prop} {l : List Oper} {F : Nat→Value→World→Prop} {a0:Act} {w0:World}
end
theorem Any.stable:Stable Any:=fun _ _ _ h _=>h
open Go.RowKit Go.ChangeShapes Go.WideShapes
set_option linter.unusedVariables false
set_option maxHeartbeats 16000000
set_option maxRecDepth 1000000
section
variable {H : Type} {enc:TypeId × Value→H} {P : Program} {w : World} {base:Nat} {held:Bool}
end
theorem Try.cellsInts:Try.prog.cellsOf 25=1:=by kernel_rfl
section
variable {H : Type} {enc:TypeId × Value→H} {w : World} {base:Nat} {held:Bool}
end
section
variable {H : Type} {enc:TypeId × Value→H} {P : Program} {w : World} {base:Nat} {held:Bool}
end
section
variable {α:Type}
variable {dep:α→α→Bool} {l m l':List α} {x y:α}
theorem TE.symm (h:TE dep l m):TE dep m l:=by
 induction h with
 | refl l=>exact .refl l
 | swap u v x y h1 h2=>exact .swap u v y x h2 h1
 | trans _ _ i1 i2=>exact .trans i2 i1
theorem TE.app (u:List α) (h:TE dep l m):TE dep (u++l) (u++m):=by
 induction u with
 | nil=>exact h
 | cons z u ih=>exact ih.cons z
theorem TE.front (hs:∀ a b,dep a b=dep b a):∀ u:List α,(∀ z∈u,dep z x=false)→TE dep (u++x::l) (x::(u++l))
 | [],_=>.refl _
 | z::u,h=>((TE.front hs u fun y hy=>h y (List.mem_cons_of_mem _ hy)).cons z).trans (.swap [] (u++l) z x (h z List.mem_cons_self) ((hs x z).trans (h z List.mem_cons_self)))
end
section
variable {α:Type} [DecidableEq α]
variable {dep:α→α→Bool} {l m l':List α} {x y:α}
end
section
variable {p q:PrgV} {ans:List Int}
end
theorem sameEnd_iff (a b:EndV):sameEndB a b=true↔a.op=b.op∧a.a=b.a∧a.b=b.b∧a.imm=b.imm∧a.to=b.to:=by
 unfold sameEndB numsB;simp only[Bool.and_eq_true,beq_iff_eq,decide_eq_true_eq]
section
variable {p q:PrgV} {ans:List Int} {S : Nat}
end
structure MovedP (p q:PrgV):Prop where
 params:q.params=p.params
 k:q.k=p.k
 slots:q.slots=p.slots
 len:q.blocks.length=p.blocks.length
 each:∀ (t:Nat) (a b:BlkV),p.blocks[t]? = some a→q.blocks[t]? = some b→b.fin=a.fin∧TE kdep (a.ins.map key) (b.ins.map key)∧∀ x∈b.ins,x∈a.ins
theorem te_len {a b:List PlV} (h:TE kdep (a.map key) (b.map key)):b.length=a.length:=by
 have:=h.len;simpa using this.symm
theorem ptotal_len:∀ {l m:List BlkV},m.length=l.length→(∀ (t:Nat) (a b:BlkV),l[t]? = some a→m[t]? = some b→b.ins.length=a.ins.length)→ptotal m=ptotal l
 | [],[],_,_=>rfl
 | [],_::_,h,_=>by cases h
 | _::_,[],h,_=>by cases h
 | a::l,b::m,h,h2=>by
  have h3:=ptotal_len (l:=l) (m:=m) (by simpa using h) fun t a b ha hb=>h2 (t+1) a b ha hb
  have h4:=h2 0 a b rfl rfl
  unfold ptotal at h3 ⊢
  simp only[List.length_cons,List.map_cons,List.sum_cons]at h3 ⊢
  omega
theorem MovedP.at {p q:PrgV} (h:MovedP p q) {b : BlkV} (hb:b∈q.blocks):∃ a∈p.blocks,b.fin=a.fin∧∀ x∈b.ins,x∈a.ins:=by
 obtain⟨t,ht⟩:=List.getElem?_of_mem hb;have hlt:=(List.getElem?_eq_some_iff.1 ht).1;obtain⟨a,ha⟩:∃ a,p.blocks[t]? = some a:=⟨_,List.getElem?_eq_getElem (by rw[←h.len];exact hlt)⟩
 obtain⟨h1,_,h2⟩:=h.each t a b ha ht;exact⟨a,List.mem_of_getElem? ha,h1,h2⟩
theorem PrgGood.moved {p q:PrgV} (hp:PrgGood p) (h:MovedP p q):PrgGood q:=by
 refine⟨by rw[h.params];exact hp.params,by rw[h.k];exact hp.k,by rw[h.slots];exact hp.slots,by rw[h.len];exact hp.blocks,?_,fun b hb=>?_,fun b hb x hx=>?_⟩
 ·rw[ptotal_len h.len fun t a b ha hb=>te_len (h.each t a b ha hb).2.1];exact hp.total
 ·obtain⟨a,ha,h1,h2⟩:=h.at hb;rw[h.slots,h.len];exact⟨fun x hx=>(hp.each a ha).ins x (h2 x hx),by rw[h1];exact (hp.each a ha).fin⟩
 ·obtain⟨a,ha,h1,h2⟩:=h.at hb;exact hp.src a ha x (h2 x hx)
theorem MovedP.turns {p q:PrgV} (h:MovedP p q):Turns p q:=by
 refine⟨by unfold headB;rw[h.params,h.k,h.slots,h.len];simp,fun t a b ha hb=>?_⟩;obtain⟨h1,h2,_⟩:=h.each t a b ha hb;rw[blocks_iff,h1];exact⟨te_len h2,h2,sameEnd_refl _⟩
theorem turns_symm {p q:PrgV} (h:Turns p q):Turns q p:=by
 obtain⟨h1,h2⟩:=h;refine⟨?_,fun t a b ha hb=>?_⟩
 ·unfold headB at h1 ⊢;simp only[Bool.and_eq_true,beq_iff_eq,decide_eq_true_eq]at h1 ⊢;obtain⟨a,b,c,d⟩:=h1;exact⟨a.symm,b.symm,c.symm,d.symm⟩
 ·have h3:=h2 t b a hb ha;rw[blocks_iff]at h3 ⊢;obtain⟨h4,h5,h6⟩:=h3;refine⟨h4.symm,h5.symm,?_⟩;rw[sameEnd_iff]at h6 ⊢;obtain⟨a1,a2,a3,a4,a5⟩:=h6;exact⟨a1.symm,a2.symm,a3.symm,a4.symm,a5.symm⟩
theorem turns_trans {p q r:PrgV} (h:Turns p q) (k:Turns q r) (hl:q.blocks.length=p.blocks.length):Turns p r:=by
 obtain⟨h1,h2⟩:=h;obtain⟨k1,k2⟩:=k;refine⟨?_,fun t a b ha hb=>?_⟩
 ·unfold headB at h1 k1 ⊢;simp only[Bool.and_eq_true,beq_iff_eq,decide_eq_true_eq]at h1 k1 ⊢;obtain⟨a,b,c,d⟩:=h1;obtain⟨a',b',c',d'⟩:=k1;exact⟨a.trans a',b.trans b',c.trans c',d.trans d'⟩
 ·have hlt:=(List.getElem?_eq_some_iff.1 ha).1;obtain⟨m,hm⟩:∃ m,q.blocks[t]? = some m:=⟨_,List.getElem?_eq_getElem (by rw[hl];exact hlt)⟩
  have h3:=h2 t a m ha hm;have k3:=k2 t m b hm hb;rw[blocks_iff]at h3 k3 ⊢;obtain⟨h4,h5,h6⟩:=h3;obtain⟨k4,k5,k6⟩:=k3;refine⟨k4.trans h4,h5.trans k5,?_⟩;rw[sameEnd_iff]at h6 k6 ⊢;obtain⟨a1,a2,a3,a4,a5⟩:=h6;obtain⟨b1,b2,b3,b4,b5⟩:=k6;exact⟨a1.trans b1,a2.trans b2,a3.trans b3,a4.trans b4,a5.trans b5⟩
theorem turns_law {p a b:PrgV} (hp:PrgGood p) (h:MovedP p a) (k:MovedP a b):(checkE p a).1=0∧(checkE a p).1=0∧(checkE p b).1=0∧(checkE b p).1=0:=by
 have h1:=hp.right;have h2:=(hp.moved h).right;have h3:=((hp.moved h).moved k).right;have t2:=turns_trans h.turns k.turns h.len;exact⟨(checkE_ok h1 h2).2 h.turns,(checkE_ok h2 h1).2 (turns_symm h.turns),(checkE_ok h1 h3).2 t2,(checkE_ok h3 h1).2 (turns_symm t2)⟩
def pl0:PlV:=⟨machZ,.slice none 0 0,0⟩
def badAt (l:List PlV) (gone:List Bool) (i k:Nat):Bool:=!gone.getD k true&&dependsB (l.getD k pl0).m (l.getD i pl0).m
def readyTo (l:List PlV) (gone:List Bool) (i k:Nat):Bool:=!gone.getD i true&&(List.range k).all fun j=>!badAt l gone i j
theorem readyTo_zero (l:List PlV) (gone:List Bool) (i:Nat):readyTo l gone i 0 = !gone.getD i true:=by unfold readyTo;simp
theorem readyTo_succ (l:List PlV) (gone:List Bool) (i k:Nat):readyTo l gone i (k+1)=(readyTo l gone i k&&!badAt l gone i k):=by
 unfold readyTo;rw[List.range_succ,List.all_append,Bool.and_assoc];simp
def mays (l:List PlV) (gone:List Bool) (i:Nat):List Int:=((List.range i).filter fun j=>readyTo l gone j j).map fun (j:Nat)=>(j:Int)
theorem mays_succ (l:List PlV) (gone:List Bool) (i:Nat):mays l gone (i+1)=mays l gone i++(if readyTo l gone i i then [(i:Int)] else []):=by
 unfold mays;rw[List.range_succ,List.filter_append,List.map_append];congr 1
 cases h:readyTo l gone i i<;>simp[h]
theorem mays_len (l:List PlV) (gone:List Bool) (i:Nat):(mays l gone i).length≤i:=by
 unfold mays;rw[List.length_map];exact Nat.le_trans (List.length_filter_le _ _) (by simp)
theorem mays_mem {l : List PlV} {gone:List Bool} {n : Nat} {x : Int} (h:x∈mays l gone n):∃ i:Nat,x=i∧i<n∧readyTo l gone i i=true:=by
 unfold mays at h;obtain⟨i,hi,rfl⟩:=List.mem_map.1 h;rw[List.mem_filter]at hi;exact⟨i,rfl,List.mem_range.1 hi.1,hi.2⟩
def leftL:List PlV→List Bool→List PlV
 | x::l,g::gs=>if g then leftL l gs else x::leftL l gs
 | _,_=>[]
theorem leftL_all:∀ l:List PlV,leftL l (List.replicate l.length false)=l
 | []=>rfl
 | x::l=>by
  show leftL (x::l) (false::List.replicate l.length false)=_
  unfold leftL
  rw[if_neg (by decide),leftL_all l]
theorem leftL_at:∀ (l:List PlV) (gone:List Bool) (i:Nat) (x:PlV),l[i]? = some x→gone[i]? = some false→∃ u v,leftL l gone=u++x::v∧leftL l (gone.set i true)=u++v∧∀ z∈u,∃ k,k<i∧l[k]? = some z∧gone[k]? = some false
 | [],_,_,_,h,_=>by cases h
 | _::_,[],_,_,_,h=>by cases h
 | a::l,g::gs,0,x,h1,h2=>by
  cases h1;cases h2
  refine⟨[],leftL l gs,?_,?_,fun z hz=>by cases hz⟩
  ·conv=>lhs;unfold leftL
   rfl
  ·rw[List.set_cons_zero]
   conv=>lhs;unfold leftL
   rfl
 | a::l,g::gs,i+1,x,h1,h2=>by
  obtain⟨u,v,e1,e2,h3⟩:=leftL_at l gs i x h1 h2
  cases g with
  | true =>
   refine⟨u,v,?_,?_,fun z hz=>?_⟩
   ·rw[←e1];rfl
   ·rw[←e2];rfl
   ·obtain⟨k,hk,h4,h5⟩:=h3 z hz
    exact⟨k+1,by omega,h4,h5⟩
  | false =>
   refine⟨a::u,v,?_,?_,fun z hz=>?_⟩
   ·rw[List.cons_append,←e1];rfl
   ·rw[List.cons_append,←e2];rfl
   ·rcases List.mem_cons.1 hz with rfl|hz
    ·exact⟨0,by omega,rfl,rfl⟩
    ·obtain⟨k,hk,h4,h5⟩:=h3 z hz
     exact⟨k+1,by omega,h4,h5⟩
theorem leftL_first:∀ (l:List PlV) (gone:List Bool),0<(leftL l gone).length→∃ i,i<l.length∧gone[i]? = some false∧∀ k,k<i→gone[k]? = some true
 | [],_,h=>by unfold leftL at h;exact absurd h (by simp)
 | _::_,[],h=>by unfold leftL at h;exact absurd h (by simp)
 | a::l,g::gs,h=>by
  cases g with
  | false=>exact⟨0,by simp,rfl,fun k hk=>by omega⟩
  | true =>
   have h':0<(leftL l gs).length:=h
   obtain⟨i,h1,h2,h3⟩:=leftL_first l gs h'
   refine⟨i+1,by simpa using h1,h2,fun k hk=>?_⟩
   cases k with
   | zero=>rfl
   | succ k=>exact h3 k (by omega)
structure PutS (l out:List PlV) (gone:List Bool):Prop where
 len:gone.length=l.length
 te:TE kdep (l.map key) ((out++leftL l gone).map key)
 sub:∀ x∈out,x∈l
theorem PutS.cnt {l out:List PlV} {gone:List Bool} (h:PutS l out gone):out.length+(leftL l gone).length=l.length:=by
 have:=te_len h.te;simpa using this
theorem PutS.start (l:List PlV):PutS l [] (List.replicate l.length false):=⟨by simp,by rw[leftL_all];exact .refl _,fun x h=>by cases h⟩
theorem PutS.next {l out:List PlV} {gone:List Bool} {i : Nat} {x : PlV} (h:PutS l out gone) (hx:l[i]? = some x) (hr:readyTo l gone i i=true):PutS l (out++[x]) (gone.set i true):=by
 have hlt:=(List.getElem?_eq_some_iff.1 hx).1;unfold readyTo at hr;rw[Bool.and_eq_true,List.all_eq_true]at hr;obtain⟨hg,hb⟩:=hr;have hgi:gone[i]? = some false:=by
  obtain⟨g,h1⟩:∃ g,gone[i]? = some g:=⟨_,List.getElem?_eq_getElem (by rw[h.len];exact hlt)⟩
  rw[getD_some h1]at hg;rw[h1]
  cases g with
  | false=>rfl
  | true=>cases hg
 obtain⟨u,v,e1,e2,h3⟩:=leftL_at l gone i x hx hgi;have hs:∀ a b:Key,kdep a b=kdep b a:=fun a b=>dep_comm a.1 b.1
 refine⟨by rw[List.length_set];exact h.len,?_,fun z hz=>?_⟩
 ·rw[e2];have h1:=h.te;rw[e1]at h1;have h4:TE kdep (u.map key++key x::v.map key) (key x::(u.map key++v.map key)):=TE.front hs _ fun z hz=>by
   obtain⟨y,hy,rfl⟩:=List.mem_map.1 hz;obtain⟨k,hk,h5,h6⟩:=h3 y hy;have h7:=hb k (List.mem_range.2 hk);unfold badAt at h7;rw[getD_some h5,getD_some hx,getD_some h6]at h7;show dependsB y.m x.m=false
   cases hd:dependsB y.m x.m with
   | false=>rfl
   | true=>rw[hd]at h7;cases h7
  have h5:=h4.app (out.map key);refine h1.trans ?_;simpa using h5
 ·rcases List.mem_append.1 hz with hz|hz
  ·exact h.sub z hz
  ·rw[List.mem_singleton.1 hz];exact List.mem_of_getElem? hx
theorem PutS.may {l out:List PlV} {gone:List Bool} (h:PutS l out gone) (hlt:out.length<l.length):0<(mays l gone l.length).length:=by
 have hc:=h.cnt;obtain⟨i,h1,h2,h3⟩:=leftL_first l gone (by omega);refine List.length_pos_of_mem (a:=(i:Int)) ?_;unfold mays;refine List.mem_map.2 ⟨i,List.mem_filter.2 ⟨List.mem_range.2 h1,?_⟩,rfl⟩;unfold readyTo;rw[getD_some h2,Bool.not_false,Bool.true_and,List.all_eq_true];intro j hj;unfold badAt;rw[getD_some (h3 j (List.mem_range.1 hj))];rfl
theorem PutS.done {l out:List PlV} {gone:List Bool} (h:PutS l out gone) (he:out.length=l.length):TE kdep (l.map key) (out.map key):=by
 have hc:=h.cnt;have h0:leftL l gone=[]:=List.length_eq_zero_iff.1 (by omega);have h1:=h.te;rw[h0,List.append_nil]at h1;exact h1
theorem tmod_bd3 (x n:Int) (hn:0<n) : -n<x.tmod n∧x.tmod n<n:=by
 have h1:=Int.tmod_lt_of_pos x hn;have h2:=Int.tmod_lt_of_pos (-x) hn;rw[Int.neg_tmod]at h2;omega
def lenOf:Value→Nat
 | .slice _ n _=>n
 | _=>0
structure PutW (w0:World) (l:List PlV) (G:Nat) (gone:List Bool) (ov:Value) (out:List PlV) (w:World):Prop where
 gb:HeapIs w G (gone.map Value.bool).toArray 4
 low:w0.heap.size≤G
 row:OwnRow plcells 9 58 w0.heap.size w ov out
 st:PutS l out gone
 old:Since w0 w
section
variable {w0 w w' w1 w2:World} {l out:List PlV} {v':Value} {G : Nat} {gone:List Bool} {ov:Value}
theorem PutW.keep (h:PutW w0 l G gone ov out w) (s:Since w w'):PutW w0 l G gone ov out w':=⟨h.gb.keep s,h.low,h.row.keep s,h.st,h.old.trans s⟩
theorem PutW.turn {T : Nat→Prop} {U : TypeId} (h:PutW w0 l G gone ov out w) (t:Turn T w w') (k:Kin w U T) (h1:4≠U) (h2:58≠U) (hl:∀ q,q<w0.heap.size→¬ T q):PutW w0 l G gone ov out w':=
 ⟨h.gb.turn t (k.heap h.gb h1),h.low,own_turn (show w.ownsRow _ _ _ _ _ _ from h.row) t (k.apart (show w.ownsRow _ _ _ _ _ _ from h.row) h2),h.st,t.toSince h.old fun q hq e=>hl q hq e⟩
theorem PutW.next (h:PutW w0 l G gone ov out w) {j : Nat} {x : PlV} (hx:l[j]? = some x) (hr:readyTo l gone j j=true) (hw1:Since (w.setCell ⟨G,j,none⟩ (.bool true)) w1) (hown:OwnRow plcells 9 58 w0.heap.size w2 v' (out++[x])) (t:Turn (fun q=>ov.ownBlock=some q) w1 w2):PutW w0 l G (gone.set j true) v' (out++[x]) w2:=by
 have tg:Turn (fun q=>q=G) w (w.setCell ⟨G,j,none⟩ (.bool true)):=(Turn.refl (fun q=>q=G) w).setCell (p:=⟨G,j,none⟩) rfl _;have hb1:HeapIs (w.setCell ⟨G,j,none⟩ (.bool true)) G ((gone.set j true).map Value.bool).toArray 4:=by
  have h1:=h.gb.set j (.bool true);rw[List.map_set];simpa using h1
 have hr1:=own_keep (own_turn (show w.ownsRow _ _ _ _ _ _ from h.row) tg ((Kin.box h.gb).apart (show w.ownsRow _ _ _ _ _ _ from h.row) (by decide))) hw1;have k:=Kin.row hr1;exact⟨(hb1.keep hw1).turn t (k.heap (hb1.keep hw1) (by decide)),h.low,hown,h.st.next hx hr,t.toSince ((tg.toSince h.old fun q hq e=>by have:=h.low;omega).trans hw1) fun q hq e=>by have:=(World.ownsRow.lt hr1 q e).1;omega⟩
theorem readyTo_no {l : List PlV} {gone:List Bool} {i k j:Nat} (h:readyTo l gone i k=false) (hk:k≤j):readyTo l gone i j=false:=by
 obtain⟨d,rfl⟩:∃ d,j=k+d:=⟨j-k,by omega⟩
 clear hk;induction d with
 | zero=>exact h
 | succ d ih=>rw[←Nat.add_assoc,readyTo_succ,ih];rfl
theorem PutW.at (h:PutW w0 l G gone ov out w) {k : Nat} (hk:k<l.length):w.cell? ⟨G,k,none⟩=some (.bool (gone.getD k true))∧G<w.heap.size:=by
 refine⟨?_,h.gb.lt⟩;rw[h.gb.cell k];obtain⟨g,h1⟩:∃ g,gone[k]? = some g:=⟨_,List.getElem?_eq_getElem (by rw[h.st.len];exact hk)⟩
 rw[getD_some h1];simp[h1]
end
def PlAt (w:World) (B o:Nat) (x:PlV):Prop:=(w.cell? ⟨B,o,none⟩=some (.int .i64 x.m.op)∧w.cell? ⟨B,o+1,none⟩=some (.int .i64 x.m.d)∧w.cell? ⟨B,o+2,none⟩=some (.int .i64 x.m.e)∧w.cell? ⟨B,o+3,none⟩=some (.int .i64 x.m.a)∧w.cell? ⟨B,o+4,none⟩=some (.int .i64 x.m.b)∧w.cell? ⟨B,o+5,none⟩=some (.int .i64 x.m.c)∧w.cell? ⟨B,o+6,none⟩=some (.int .i32 x.m.imm)∧w.cell? ⟨B,o+7,none⟩=some x.av)∧B<w.heap.size
theorem pls_block {w : World} {v : Value} {l : List PlV} (h:Pls w v l) (hn:0<l.length):∃ B off c,v=.slice (some ⟨B,off,none⟩) l.length c∧∀ (j:Nat) (x:PlV),l[j]? = some x→(PlAt w B (off+j*9) x∧w.cell? ⟨B,off+j*9+8,none⟩=some (.int .i64 x.src))∧PlOk w x:=by
 rcases h with ⟨a,_,h2⟩|⟨B,off,cap,h1,h2,h3,h4,h5⟩
 ·rw[h2]at hn;exact absurd hn (by simp)
 ·refine⟨B,off,cap,h1,fun j x hx=>?_⟩;obtain⟨h6,h7⟩:=h5 j x hx;exact⟨⟨⟨⟨h6 0 (by decide),h6 1 (by decide),h6 2 (by decide),h6 3 (by decide),h6 4 (by decide),h6 5 (by decide),h6 6 (by decide),h6 7 (by decide)⟩,h4⟩,h6 8 (by decide)⟩,h7⟩
theorem PlAt.keep {w w':World} {B o:Nat} {x : PlV} (h:PlAt w B o x) (s:Since w w'):PlAt w' B o x:=by
 obtain⟨⟨c0,c1,c2,c3,c4,c5,c6,c7⟩,hl⟩:=h;have k:=fun i=>s.cell (p:=⟨B,i,none⟩) hl
 exact⟨⟨(k _).trans c0,(k _).trans c1,(k _).trans c2,(k _).trans c3,(k _).trans c4,(k _).trans c5,(k _).trans c6,(k _).trans c7⟩,Nat.lt_of_lt_of_le hl s.size⟩
def PutQ (l:List PlV) (w:World) (e:Ending) (w':World):Prop:=∃ v m,e=.returned v∧OwnRow plcells 9 58 w.heap.size w' v m∧TE kdep (l.map key) (m.map key)∧(∀ x∈m,x∈l)∧Since w w'
theorem put_any (l:List PlV) (s:List Int) (lv sv:Value) (w:World) (hl:Pls w lv l) (hs:Ints w sv s) (hn:l.length≤50000):Calls Try.prog 69 #[lv,sv] w (PutQ l w):=by
 obtain⟨la,lc,hlv,_⟩:=RowIn.shape hl;obtain⟨sa,sc,rfl⟩:=nums_lenI hs;have hcap:s.length≤9223372036854775807:=by have h1:=(nums_caps hs).2.1;have h2:=(nums_caps hs).2.2;omega
 obtain⟨n,hnn⟩:∃ z,l.length=z:=⟨_,rfl⟩
 obtain⟨sl,hsl⟩:∃ z,s.length=z:=⟨_,rfl⟩
 rw[hnn]at hlv hn;rw[hsl]at hs hcap ⊢;subst hlv;have HL:=hid hl;have HSV:=hid hs;have HN:=hid hnn;have HSL:=hid hsl;have hsl9:=hcap;have hinf:(Try.prog.info? 4).map (fun i=>(i.zero,i.size,i.bytes))=some (some (.bool false),1,1):=by kernel_rfl
 obtain⟨ti,hti,hz0,hz1,hz2⟩:=info_parts hinf;have TI:=hid (And.intro hti (And.intro hz0 (And.intro hz1 hz2)));clear hl hs hnn hsl hcap hinf hti hz0 hz1 hz2;go_enter Try.func69,Try.ntmps69
 go_upto_region 2 with (refine wpList_make_full _ rfl (.tmp 14) (.tmp 14) 79 rfl w.heap.size 4 ti (.bool false) 1 Try.underlying79 TI.out.1 TI.out.2.1 TI.out.2.2.1 .i64 .i64 _ _ n rfl rfl rfl rfl (by rw[TI.out.2.2.2];omega) (by unfold maxLen;omega) (Nat.le_refl _) ?_;intro w2 hown hgrow;obtain⟨hs2,hbox⟩:=made_block rfl (by decide) hown hgrow;have HS2:=hid hs2;have HBX:=hid hbox;clear hown hgrow hs2 hbox)
 obtain⟨G,hG⟩:∃ z,z=w.heap.size:=⟨_,rfl⟩
 have HP0:=hid (show PutW w l G (List.replicate n false) (.slice none 0 0) [] w2 from by
  have e:(List.replicate n (Value.bool false).cells.toList).flatten=(List.replicate n false).map Value.bool:=by
   rw[List.map_replicate];exact flat_one_rep n _
  have h9:=HBX.out;rw[e]at h9;exact⟨by rw[hG];exact h9,by omega,OwnRow.nil _ _ _ _ _,by rw[←HN.out];exact PutS.start l,HS2.out⟩)
 rw[←hG];clear hG HBX;go_wp2_with fail
 go_loopw [6] (fun ov wr=>∃ (m:Nat) (v:Value) (out:List PlV) (gone:List Bool),ov=v∧m≤n∧out.length=m∧PutW w l G gone v out wr) (fun ov _=>n-lenOf ov)
 case atStart=>exact⟨0,_,[],_,rfl,Nat.zero_le _,rfl,HP0.out⟩
 case round =>
  obtain⟨m,v,out,gone,rfl,hm,hol,hst⟩:=hrel;obtain⟨va,vc,hv⟩:=OwnRow.shape hst.row;rw[hol]at hv;subst hv;have HO:=hid hst;have HOL:=hid hol;clear hst hol HP0;by_cases hmn:m<n
  ·obtain⟨LB,loff,lc2,hlv,hat⟩:=pls_block HL.out (by rw[HN.out];omega);rw[HN.out]at hlv;obtain⟨rfl,rfl⟩:la=some ⟨LB,loff,none⟩∧lc=lc2:=by cases hlv;exact⟨rfl,rfl⟩
   have HAT:=hid hat;clear hlv hat;obtain⟨wo,hwo⟩:∃ z,z=wr:=⟨_,rfl⟩
   have HWO:=hid hwo;clear hwo;go_wp2_with fail
   go_loopw [7,8] (fun mv iv wr=>∃ (i t:Nat) (v:Value),mv=v∧iv=.int .i64 i∧i≤n∧(mays l gone i).length=t∧PutW w l G gone (.slice va m vc) out wr∧wr.ownsRow w.heap.size 3 1 v t ((mays l gone i).map (Value.int .i64))) (fun _ iv _=>n-(intOf iv).toNat)
   case atStart=>exact⟨0,0,_,rfl,rfl,Nat.zero_le _,rfl,HO.out,⟨rfl,.inl ⟨rfl,rfl⟩⟩⟩
   case round =>
    obtain⟨i,t,v,rfl,rfl,hi,ht,hst,hmy⟩:=hrel;obtain⟨ya,yc,hv⟩:=own_shape hmy;subst hv;have ht9:t≤i:=by rw[←ht];exact mays_len _ _ _
    have HST:=hid hst;have HMY:=hid hmy;have HT:=hid ht;clear hst hmy ht;by_cases hin:i<n
    ·obtain⟨xi,hxi⟩:∃ x,l[i]? = some x:=⟨_,List.getElem?_eq_getElem (by rw[HN.out];exact hin)⟩
     have HXI:=hid (fun (w8:World) (s8:Since w w8)=>(HAT.out i xi hxi).1.1.keep s8)
     have HOI:=hid (HAT.out i xi hxi).2;obtain⟨gi,hgi⟩:∃ z,gone.getD i true=z:=⟨_,rfl⟩
     have hci:=(HST.out.at (k:=i) (by rw[HN.out];exact hin)).1;have hcl:=(HST.out.at (k:=i) (by rw[HN.out];exact hin)).2;rw[hgi]at hci;have HGI:=hid hgi;have HXII:=hid hxi;clear hgi hxi;go_wp2_with fail
     go_loopw [9,10] (fun rv kv wr=>∃ (k:Nat),k≤i∧kv=.int .i64 k∧rv=.bool (readyTo l gone i k)∧PutW w l G gone (.slice va m vc) out wr∧wr.ownsRow w.heap.size 3 1 (.slice ya t yc) t ((mays l gone i).map (Value.int .i64))) (fun _ kv _=>i-(intOf kv).toNat)
     case atStart=>exact⟨0,Nat.zero_le _,rfl,by rw[readyTo_zero,HGI.out],HST.out,HMY.out⟩
     case round =>
      clear hci hcl HST HMY;obtain⟨k,hki,rfl,rfl,hst,hmy⟩:=hrel;have HST:=hid hst;have HMY:=hid hmy;clear hst hmy;obtain⟨rd,hrd⟩:∃ z,readyTo l gone i k=z:=⟨_,rfl⟩
      rw[hrd];have HRD:=hid hrd;clear hrd;by_cases hlt:k<i
      ·cases rd
       ·have HNO:=hid (show mays l gone (i+1)=mays l gone i from by rw[mays_succ,readyTo_no HRD.out hki];simp)
        go_wp2_with fail
        go_roundw
        case rel=>exact⟨i+1,t,_,by trivial,by go_num,by omega,by rw[HNO.out];exact HT.out,HST.out,by rw[HNO.out];exact HMY.out⟩
        case measure=>simp[intOf];omega
       ·obtain⟨xk,hxk⟩:∃ x,l[k]? = some x:=⟨_,List.getElem?_eq_getElem (by rw[HN.out];omega)⟩
        have HXK:=hid (fun (w8:World) (s8:Since w w8)=>(HAT.out k xk hxk).1.1.keep s8)
        have HOK:=hid (HAT.out k xk hxk).2;obtain⟨gk,hgk⟩:∃ z,gone.getD k true=z:=⟨_,rfl⟩
        have HBAD:=hid (show badAt l gone i k=(!gk&&dependsB xk.m xi.m) from by unfold badAt;rw[hgk,getD_some hxk,getD_some HXII.out])
        have HDEP:=hid (fun (w8:World) (s8:Since w w8)=>show Calls Try.prog 32 #[mv xk.m xk.av,mv xi.m xi.av] w8 (TellsS (dependsB xk.m xi.m) w8) from by rw[depends_eq];exact rdepends_any xk.m xi.m xk.av xi.av w8 (HOK.out.1.keep s8) (HOI.out.1.keep s8) HOK.out.2.1 HOI.out.2.1)
        have HGK:=hid (fun (w8:World) (s8:Since wr w8)=>show w8.cell? ⟨G,k,none⟩=some (.bool gk)∧G<w8.heap.size from by rw[←hgk];exact (HST.out.keep s8).at (by rw[HN.out];omega))
        have HS5:=HST.out.old;have HS5:=hid HS5;clear hxk hgk
        cases gk
        ·go_wp2_with fail
         refine wp_region_list_facts rfl (by decide +kernel) (by decide +kernel)
          (Is (.slice (some ⟨G,0,none⟩) n n)::Is (.int .i64 k)::Is (.pointer (some ⟨G,k,none⟩))::Is (.bool false)::Is (.bool true)::Is (.bool true)::Is (.slice (some ⟨LB,loff,none⟩) n lc)::Is (.int .i64 k)::Is (.pointer (some ⟨LB,loff+k*9,none⟩))::Is (.pointer (some ⟨LB,loff+k*9,none⟩))::Is (mv xk.m xk.av)::Is (.slice (some ⟨LB,loff,none⟩) n lc)::Is (.int .i64 i)::Is (.pointer (some ⟨LB,loff+i*9,none⟩))::Is (.pointer (some ⟨LB,loff+i*9,none⟩))::Is (mv xi.m xi.av)::Is (.bool (dependsB xk.m xi.m))::Is (.bool (dependsB xk.m xi.m))::Is (.bool (dependsB xk.m xi.m))::[])
          (by repeat (first|exact trivial|refine⟨Is.stable _,?_⟩|refine⟨Any.stable,?_⟩)) ⟨?_,?_,?_,?_,?_,?_,?_,?_,?_,?_,?_,?_,?_,?_,?_,?_,?_,?_,?_,trivial⟩ ?_
         all_goals
          intro vs w8 hs hk;simp only[putAll,Act.put,Knows,KnowsAll,nthF,Is,List.setIfInBounds_toArray,List.set_cons_zero,List.set_cons_succ,Nat.reduceAdd,List.length_cons,List.length_nil]at hk ⊢;try simp only[hk]
         iterate 3
          ·go_wp2
           exact⟨_,rfl,rfl,Since.refl _⟩
         ·have hc:=(HGK.out w8 hs).1;have hl:=(HGK.out w8 hs).2;go_wp2
          exact⟨_,rfl,rfl,Since.refl _⟩
         iterate 6
          ·go_wp2
           exact⟨_,rfl,rfl,Since.refl _⟩
         ·obtain⟨⟨c0,c1,c2,c3,c4,c5,c6,c7⟩,hl⟩:=HXK.out w8 (HS5.out.trans hs);go_wp2
          exact⟨_,rfl,rfl,Since.refl _⟩
         iterate 4
          ·go_wp2
           exact⟨_,rfl,rfl,Since.refl _⟩
         ·obtain⟨⟨c0,c1,c2,c3,c4,c5,c6,c7⟩,hl⟩:=HXI.out w8 (HS5.out.trans hs);go_wp2
          exact⟨_,rfl,rfl,Since.refl _⟩
         ·have HC:=hid (HDEP.out w8 (HS5.out.trans hs));clear hk hs;go_wp2_with fail
          refine HC.out.mono ?_;rintro e w9 ⟨rfl,hs9⟩;go_wp2
          exact⟨_,rfl,rfl,hs9⟩
         iterate 2
          ·go_wp2
           exact⟨_,rfl,rfl,Since.refl _⟩
         ·have HS8:=hid hs;clear hk hs;obtain⟨bad,hbad⟩:∃ z,dependsB xk.m xi.m=z:=⟨_,rfl⟩
          have HBD:=hid hbad;rw[hbad];clear hbad;go_wp2_with fail
          go_roundw
          case rel=>exact⟨k+1,by omega,by go_num,by rw[readyTo_succ,HRD.out,HBAD.out,HBD.out];rfl,HST.out.keep HS8.out,own_keep HMY.out HS8.out⟩
          case measure=>simp[intOf];omega
        ·go_wp2_with fail
         refine wp_region_list_facts rfl (by decide +kernel) (by decide +kernel)
          (Is (.slice (some ⟨G,0,none⟩) n n)::Is (.int .i64 k)::Is (.pointer (some ⟨G,k,none⟩))::Is (.bool true)::Is (.bool false)::Is (.bool false)::Any::Any::Any::Any::Any::Any::Any::Any::Any::Any::Any::Is (.bool false)::Is (.bool false)::[])
          (by repeat (first|exact trivial|refine⟨Is.stable _,?_⟩|refine⟨Any.stable,?_⟩)) ⟨?_,?_,?_,?_,?_,?_,?_,?_,?_,?_,?_,?_,?_,?_,?_,?_,?_,?_,?_,trivial⟩ ?_
         all_goals
          intro vs w8 hs hk;simp only[putAll,Act.put,Knows,KnowsAll,nthF,Is,Any,List.setIfInBounds_toArray,List.set_cons_zero,List.set_cons_succ,Nat.reduceAdd,List.length_cons,List.length_nil]at hk ⊢;try simp only[hk]
         iterate 3
          ·go_wp2
           exact⟨_,rfl,rfl,Since.refl _⟩
         ·have hc:=(HGK.out w8 hs).1;have hl:=(HGK.out w8 hs).2;go_wp2
          exact⟨_,rfl,rfl,Since.refl _⟩
         iterate 2
          ·go_wp2
           exact⟨_,rfl,rfl,Since.refl _⟩
         ·go_wp2
          exact⟨_,(put_old _ 46).symm,trivial,Since.refl _⟩
         ·go_wp2
          exact⟨_,(put_old _ 47).symm,trivial,Since.refl _⟩
         ·go_wp2
          exact⟨_,(put_old _ 48).symm,trivial,Since.refl _⟩
         ·go_wp2
          exact⟨_,(put_old _ 49).symm,trivial,Since.refl _⟩
         ·go_wp2
          exact⟨_,(put_old _ 50).symm,trivial,Since.refl _⟩
         ·go_wp2
          exact⟨_,(put_old _ 51).symm,trivial,Since.refl _⟩
         ·go_wp2
          exact⟨_,(put_old _ 52).symm,trivial,Since.refl _⟩
         ·go_wp2
          exact⟨_,(put_old _ 53).symm,trivial,Since.refl _⟩
         ·go_wp2
          exact⟨_,(put_old _ 54).symm,trivial,Since.refl _⟩
         ·go_wp2
          exact⟨_,(put_old _ 55).symm,trivial,Since.refl _⟩
         ·go_wp2
          exact⟨_,(put_old _ 56).symm,trivial,Since.refl _⟩
         iterate 2
          ·go_wp2
           exact⟨_,rfl,rfl,Since.refl _⟩
         ·have HS8:=hid hs;clear hk hs;go_wp2_with fail
          go_roundw
          case rel=>exact⟨k+1,by omega,by go_num,by rw[readyTo_succ,HRD.out,HBAD.out];rfl,HST.out.keep HS8.out,own_keep HMY.out HS8.out⟩
          case measure=>simp[intOf];omega
      ·cases rd
       ·have HNO:=hid (show mays l gone (i+1)=mays l gone i from by rw[mays_succ,readyTo_no HRD.out hki];simp)
        go_wp2_with fail
        go_roundw
        case rel=>exact⟨i+1,t,_,by trivial,by go_num,by omega,by rw[HNO.out];exact HT.out,HST.out,by rw[HNO.out];exact HMY.out⟩
        case measure=>simp[intOf];omega
       ·obtain rfl:i=k:=by omega
        have HYS:=hid (show mays l gone (i+1)=mays l gone i++[(i:Int)] from by rw[mays_succ,HRD.out];rfl)
        have K1:=hid (show (wr.alloc (.cells #[.int .i64 i] 3)).ownsRow w.heap.size 3 1 (.slice ya t yc) (mays l gone i).length ((mays l gone i).map (Value.int .i64)) from by rw[HT.out];exact own_keep HMY.out ((Since.refl _).alloc _))
        have K2:=hid (show (mays l gone i).length + [(i:Int)].length≤1000000 from by rw[HT.out];simp;omega)
        have K3:=hid (show w.heap.size≤(wr.alloc (.cells #[.int .i64 i] 3)).heap.size from by have:=HST.out.old.size;simp;omega)
        go_wp2_with (refine wpList_append_nums2 (base:=w.heap.size) .i64 rfl _ _ 25 rfl 3 (.int .i64 0) 8 Try.underlying25 Try.info3 rfl (by decide) (.slice ya t yc) _ (mays l gone i) [(i:Int)] rfl rfl K1.out (one_nums _ _ _) K2.out K3.out ?_;intro v6 w6 hown6 ht6 n6;rw[List.length_append,HT.out]at hown6;have HN6:=hid ((HST.out.keep ((Since.refl _).alloc _)).turn ht6 (Kin.row K1.out) (by decide) (by decide) (fun q hq e=>by have:=(World.ownsRow.lt K1.out q e).1;omega));have HO6:=hid hown6;obtain⟨v6a,v6c,hv6⟩:=own_shape hown6;subst hv6;clear hown6 ht6 n6)
        go_roundw
        case rel=>exact⟨i+1,t+1,_,by trivial,by go_num,by omega,by rw[HYS.out,List.length_append,HT.out];rfl,HN6.out,by rw[HYS.out];exact HO6.out⟩
        case measure=>simp[intOf];omega
    ·obtain rfl:n=i:=by omega
     have ht0:0<t:=by
      have h1:=HST.out.st.may (by rw[HOL.out,HN.out];exact hmn);rw[HN.out,HT.out]at h1;exact h1
     clear hin hi;by_cases hms:m<sl
     ·obtain⟨x,hx⟩:∃ x,s[m]? = some x:=⟨_,List.getElem?_eq_getElem (by rw[HSL.out];exact hms)⟩
      obtain⟨SB,soff,hsa,hSB,hcs⟩:=nums_read (HSV.out.keep HST.out.old) hx;subst hsa;have hb0:=tmod_bd3 x t (by omega);have ht0q:((t:Int)==0)=false:=by rw[beq_eq_false_iff_ne];omega
      obtain⟨c,hc,hct⟩:∃ c:Nat,(x.tmod t+t) % t=c∧c<t:=⟨((x.tmod t+t) % t).toNat,by have:=Int.emod_nonneg (x.tmod t+t) (show (t:Int)≠0 by omega);omega,by have:=Int.emod_nonneg (x.tmod t+t) (show (t:Int)≠0 by omega);have:=Int.emod_lt_of_pos (x.tmod t+t) (show (0:Int)<t by omega);omega⟩
      clear hx;go_upto_region 19 with fail
      rw[hc];clear hcs hSB hb0 ht0q;obtain⟨z,hz⟩:∃ z,(mays l gone n)[c]? = some z:=⟨_,List.getElem?_eq_getElem (by rw[HT.out];omega)⟩
      obtain⟨j,hzj,hjn,hjr⟩:=mays_mem (List.mem_of_getElem? hz);subst hzj;obtain⟨xj,hxj⟩:∃ x,l[j]? = some x:=⟨_,List.getElem?_eq_getElem (by rw[HN.out];exact hjn)⟩
      obtain⟨MB,moff,hya,hMB,hcm⟩:=nums_read (nums_of_own (k:=.i64) (l:=mays l gone n) (by rw[HT.out];exact HMY.out)) hz;have hgj:=(HST.out.at (k:=j) (by rw[HN.out];exact hjn)).1;have hgl:=(HST.out.at (k:=j) (by rw[HN.out];exact hjn)).2;have hgf:=HST.out.gb.frozen;subst hya;have HZ:=hid hz;have HXJ:=hid hxj;have HJR:=hid hjr;clear hz hxj hjr hc;go_upto_region 20 with fail
      clear hgj hgl hgf hcm hMB;have HTG:=hid (show Turn (fun q=>q=G) wr (wr.setCell ⟨G,j,none⟩ (.bool true)) from (Turn.refl (fun q=>q=G) wr).setCell (p:=⟨G,j,none⟩) rfl _)
      have HSG:=hid (show Since w (wr.setCell ⟨G,j,none⟩ (.bool true)) from HTG.out.toSince HST.out.old fun q hq e=>by have:=HST.out.low;omega)
      have HMG:=hid (own_turn HMY.out HTG.out (Kin.apart (Kin.box HST.out.gb) HMY.out (by decide)));have HRG:=hid (own_turn (show wr.ownsRow _ _ _ _ _ _ from HST.out.row) HTG.out (Kin.apart (Kin.box HST.out.gb) (show wr.ownsRow _ _ _ _ _ _ from HST.out.row) (by decide)));obtain⟨wg,hwg⟩:∃ z,z=wr.setCell ⟨G,j,none⟩ (.bool true):=⟨_,rfl⟩
      have HWG:=hid hwg;rw[←hwg]at HTG HSG HMG HRG ⊢;clear hwg;obtain⟨MB2,moff2,hya,hMB,hcm⟩:=nums_read (nums_of_own (k:=.i64) (l:=mays l gone n) (by rw[HT.out];exact HMG.out)) HZ.out
      cases hya
      obtain⟨⟨⟨⟨k0,k1,k2,k3,k4,k5,k6,k7⟩,kl⟩,k8⟩,hxo⟩:=(show (PlAt wg LB (loff+j*9) xj∧wg.cell? ⟨LB,loff+j*9+8,none⟩=some (.int .i64 xj.src))∧PlOk w xj from by
       obtain⟨⟨g1,g2⟩,g3⟩:=HAT.out j xj HXJ.out;exact⟨⟨g1.keep HSG.out,(HSG.out.cell (p:=⟨LB,loff+j*9+8,none⟩) g1.2).trans g2⟩,g3⟩)
      obtain⟨⟨xop,xd,xe,xa,xb,xc,ximm,xargs⟩,xav,xsrc⟩:=xj;obtain⟨xq,xm,hxv⟩:=nums_lenI hxo.1;obtain⟨xn,hxn⟩:∃ z,xargs.length=z:=⟨_,rfl⟩
      dsimp only at hxv k0 k1 k2 k3 k4 k5 k6 k7 k8;rw[hxn]at hxv;subst hxv;clear hxo hxn;have K1:=hid (OwnRow.keep (show OwnRow plcells 9 58 w.heap.size wg (.slice va m vc) out from HRG.out) ((Since.refl wg).alloc (.cells #[.int .i64 xop,.int .i64 xd,.int .i64 xe,.int .i64 xa,.int .i64 xb,.int .i64 xc,.int .i32 ximm,.slice xq xn xm,.int .i64 xsrc] 58)))
      have K2:=hid (show out.length+1≤100000 from by rw[HOL.out];omega);have K3:=hid (show w.heap.size≤(wg.alloc (.cells #[.int .i64 xop,.int .i64 xd,.int .i64 xe,.int .i64 xa,.int .i64 xb,.int .i64 xc,.int .i32 ximm,.slice xq xn xm,.int .i64 xsrc] 58)).heap.size from by have:=HSG.out.size;simp;omega)
      go_wp2_with (refine wpList_append_one2 (base:=w.heap.size) plcells 9 plcells_len (by decide) rfl _ _ 54 rfl 58 (.agg #[.int .i64 0,.int .i64 0,.int .i64 0,.int .i64 0,.int .i64 0,.int .i64 0,.int .i32 0,.slice none 0 0,.int .i64 0]) 88 Try.underlying54 (by kernel_rfl) rfl (.slice va m vc) out ⟨⟨xop,xd,xe,xa,xb,xc,ximm,xargs⟩,.slice xq xn xm,xsrc⟩ wg.heap.size 1 58 rfl rfl K1.out (HeapIs.new _ _ _) (by simp[plcells,Value.oneCell']) (by have:=K2.out;unfold maxLen;omega) (by have:=K2.out;omega) K3.out ?_;intro v6 w6 hown6 ht6 n6;have HN6:=hid (HST.out.next HXJ.out HJR.out (by rw[←HWG.out];exact (Since.refl wg).alloc _) hown6 ht6);obtain⟨v6a,v6c,hv6⟩:=OwnRow.shape hown6;rw[List.length_append,HOL.out]at hv6;subst hv6;clear hown6 ht6 n6)
      go_roundw
      case rel=>exact⟨m+1,_,_,_,by trivial,by omega,by rw[List.length_append,HOL.out];rfl,HN6.out⟩
      case measure=>simp[lenOf];omega
     ·obtain⟨c,hc,hct⟩:∃ c:Nat,(0:Int)=c∧c<t:=⟨0,rfl,ht0⟩
      go_upto_region 19 with fail
      rw[hc];obtain⟨z,hz⟩:∃ z,(mays l gone n)[c]? = some z:=⟨_,List.getElem?_eq_getElem (by rw[HT.out];omega)⟩
      obtain⟨j,hzj,hjn,hjr⟩:=mays_mem (List.mem_of_getElem? hz);subst hzj;obtain⟨xj,hxj⟩:∃ x,l[j]? = some x:=⟨_,List.getElem?_eq_getElem (by rw[HN.out];exact hjn)⟩
      obtain⟨MB,moff,hya,hMB,hcm⟩:=nums_read (nums_of_own (k:=.i64) (l:=mays l gone n) (by rw[HT.out];exact HMY.out)) hz;have hgj:=(HST.out.at (k:=j) (by rw[HN.out];exact hjn)).1;have hgl:=(HST.out.at (k:=j) (by rw[HN.out];exact hjn)).2;have hgf:=HST.out.gb.frozen;subst hya;have HZ:=hid hz;have HXJ:=hid hxj;have HJR:=hid hjr;clear hz hxj hjr hc;go_upto_region 20 with fail
      clear hgj hgl hgf hcm hMB;have HTG:=hid (show Turn (fun q=>q=G) wr (wr.setCell ⟨G,j,none⟩ (.bool true)) from (Turn.refl (fun q=>q=G) wr).setCell (p:=⟨G,j,none⟩) rfl _)
      have HSG:=hid (show Since w (wr.setCell ⟨G,j,none⟩ (.bool true)) from HTG.out.toSince HST.out.old fun q hq e=>by have:=HST.out.low;omega)
      have HMG:=hid (own_turn HMY.out HTG.out (Kin.apart (Kin.box HST.out.gb) HMY.out (by decide)));have HRG:=hid (own_turn (show wr.ownsRow _ _ _ _ _ _ from HST.out.row) HTG.out (Kin.apart (Kin.box HST.out.gb) (show wr.ownsRow _ _ _ _ _ _ from HST.out.row) (by decide)));obtain⟨wg,hwg⟩:∃ z,z=wr.setCell ⟨G,j,none⟩ (.bool true):=⟨_,rfl⟩
      have HWG:=hid hwg;rw[←hwg]at HTG HSG HMG HRG ⊢;clear hwg;obtain⟨MB2,moff2,hya,hMB,hcm⟩:=nums_read (nums_of_own (k:=.i64) (l:=mays l gone n) (by rw[HT.out];exact HMG.out)) HZ.out
      cases hya
      obtain⟨⟨⟨⟨k0,k1,k2,k3,k4,k5,k6,k7⟩,kl⟩,k8⟩,hxo⟩:=(show (PlAt wg LB (loff+j*9) xj∧wg.cell? ⟨LB,loff+j*9+8,none⟩=some (.int .i64 xj.src))∧PlOk w xj from by
       obtain⟨⟨g1,g2⟩,g3⟩:=HAT.out j xj HXJ.out;exact⟨⟨g1.keep HSG.out,(HSG.out.cell (p:=⟨LB,loff+j*9+8,none⟩) g1.2).trans g2⟩,g3⟩)
      obtain⟨⟨xop,xd,xe,xa,xb,xc,ximm,xargs⟩,xav,xsrc⟩:=xj;obtain⟨xq,xm,hxv⟩:=nums_lenI hxo.1;obtain⟨xn,hxn⟩:∃ z,xargs.length=z:=⟨_,rfl⟩
      dsimp only at hxv k0 k1 k2 k3 k4 k5 k6 k7 k8;rw[hxn]at hxv;subst hxv;clear hxo hxn;have K1:=hid (OwnRow.keep (show OwnRow plcells 9 58 w.heap.size wg (.slice va m vc) out from HRG.out) ((Since.refl wg).alloc (.cells #[.int .i64 xop,.int .i64 xd,.int .i64 xe,.int .i64 xa,.int .i64 xb,.int .i64 xc,.int .i32 ximm,.slice xq xn xm,.int .i64 xsrc] 58)))
      have K2:=hid (show out.length+1≤100000 from by rw[HOL.out];omega);have K3:=hid (show w.heap.size≤(wg.alloc (.cells #[.int .i64 xop,.int .i64 xd,.int .i64 xe,.int .i64 xa,.int .i64 xb,.int .i64 xc,.int .i32 ximm,.slice xq xn xm,.int .i64 xsrc] 58)).heap.size from by have:=HSG.out.size;simp;omega)
      go_wp2_with (refine wpList_append_one2 (base:=w.heap.size) plcells 9 plcells_len (by decide) rfl _ _ 54 rfl 58 (.agg #[.int .i64 0,.int .i64 0,.int .i64 0,.int .i64 0,.int .i64 0,.int .i64 0,.int .i32 0,.slice none 0 0,.int .i64 0]) 88 Try.underlying54 (by kernel_rfl) rfl (.slice va m vc) out ⟨⟨xop,xd,xe,xa,xb,xc,ximm,xargs⟩,.slice xq xn xm,xsrc⟩ wg.heap.size 1 58 rfl rfl K1.out (HeapIs.new _ _ _) (by simp[plcells,Value.oneCell']) (by have:=K2.out;unfold maxLen;omega) (by have:=K2.out;omega) K3.out ?_;intro v6 w6 hown6 ht6 n6;have HN6:=hid (HST.out.next HXJ.out HJR.out (by rw[←HWG.out];exact (Since.refl wg).alloc _) hown6 ht6);obtain⟨v6a,v6c,hv6⟩:=OwnRow.shape hown6;rw[List.length_append,HOL.out]at hv6;subst hv6;clear hown6 ht6 n6)
      go_roundw
      case rel=>exact⟨m+1,_,_,_,by trivial,by omega,by rw[List.length_append,HOL.out];rfl,HN6.out⟩
      case measure=>simp[lenOf];omega
  ·obtain rfl:n=m:=by omega
   go_wp2_with fail
   go_ret
   exact⟨_,out,rfl,HO.out.row,HO.out.st.done (by rw[HOL.out,HN.out]),HO.out.st.sub,HO.out.old⟩
end Go.Proofs.Ytkpbmbhejpmboaa
