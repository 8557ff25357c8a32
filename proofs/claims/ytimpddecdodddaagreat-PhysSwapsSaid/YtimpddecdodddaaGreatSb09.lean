import Derived.Test.YtimpddecdodddaaGreatSb06
import Derived.Test.YtimpddecdodddaaGreatSb08
namespace Go.Proofs.YtimpddecdodddaaGreat
open Go.RowKit Go.Lib
set_option linter.unusedVariables false
set_option maxHeartbeats 1000000
set_option maxRecDepth 100000
theorem qC {P:Prop} (h:P:=by
 intro j u hu;have e2:(⟨b,0,none⟩:Addr).add j=⟨b,j,none⟩:=by
  unfold Addr.add;split
  ·rename_i h0;subst h0;rfl
  ·simp
 rw[e2];simp[World.cell?,hb,hu]):P:=h
theorem yY {P:Prop} (h:P:=by
 rcases List.mem_or_eq_of_mem_set hy with hy|rfl
 ·exact h.r32 y hy
 ·exact hx):P:=h
theorem WJ {w w':World} {row:Option Nat} (h:w.grownBy w' row):Turn (fun k=>row=some k) w w':=⟨h.os,h.tape,h.output,h.size,fun k hk hn=>h.block k hk (fun e=>hn e.symm)⟩
theorem Zj {S : Nat→Prop} {w w':World} {base:Nat} {e : TypeId} {size n:Nat} {v : Value} {xs:List Value} (h:w.ownsRow base e size v n xs) (t:Turn S w w') (hn:∀ q,v.ownBlock=some q→¬ S q):w'.ownsRow base e size v n xs:=by
 obtain⟨h0,h|⟨g,cap,cur,h1,h2,h3,h4⟩⟩:=h
 ·exact⟨h0,.inl h⟩
 ·exact⟨h0,.inr ⟨g,cap,cur,h1,h2,(t.block g (Array.getElem?_eq_some_iff.1 h3).1 (hn g (by rw[h1];rfl))).trans h3,h4⟩⟩
theorem Xd {w : World} {b1 b2:Nat} {e1 e2:TypeId} {s1 s2 n1 n2:Nat} {v1 v2:Value} {x1 x2:List Value} (h1:w.ownsRow b1 e1 s1 v1 n1 x1) (h2:w.ownsRow b2 e2 s2 v2 n2 x2) (hd:e1≠e2) (q:Nat) (hq:v1.ownBlock=some q):¬ v2.ownBlock=some q:=by
 intro ha;obtain⟨_,⟨h,_⟩|⟨g,_,_,hv,_,hg,_⟩⟩:=h1
 ·rw[h]at hq;cases hq
 obtain⟨_,⟨h,_⟩|⟨g',_,_,hc,_,hb,_⟩⟩:=h2
 ·rw[h]at ha;cases ha
 rw[hv]at hq;rw[hc]at ha;have a:g=q:=Option.some.inj hq;have b:g'=q:=Option.some.inj ha;rw[a]at hg;rw[b]at hb;rw[hg]at hb;simp only[Option.some.injEq,Obj.cells.injEq]at hb;exact hd hb.2.1
theorem V1 {α:Type} {P : Program} {base:Nat} {w : World} {ops:Array Oper} {rest:List Oper} {o : Oper} {a : Act} {Q : Exit→Act→World→Prop} (f:α→List Value) (sz:Nat) (hf:∀ x,(f x).length=sz) (hn:0<sz) (hp:o.guard=none) (s x:Operand) (t:TypeId)
  (ho:o.op=.call { callee:=.builtin .append,args:=#[s,x],argTypes:=#[t,t] })
  (e:TypeId) (z:Value) (bytes:Nat) (ht:P.underlying t=some (.slice e)) (hc:(P.info? e).map (fun i=>(i.zero,i.size,i.bytes))=some (some z,sz,bytes)) (hz:z.cells.size=sz)
  (v:Value) (l:List α) (y:α) (b cap:Nat) (t2:TypeId) (hs:a.eval s=v) (hx:a.eval x=.slice (some ⟨b,0,none⟩) 1 cap) (hg:OwnRow f sz e base w v l) (hb:w.heap[b]? = some (.cells (f y).toArray t2 (0,0))) (h1:∀ u∈f y,u.oneCell'=true)
  (hm:l.length+1≤maxLen) (hh:(l.length+1)*bytes≤140737488355328) (he:base≤w.heap.size)
  (h:∀ v' w',OwnRow f sz e base w' v' (l++[y])→Turn (fun k=>v.ownBlock=some k) w w'→wpList P ops Q rest (a.put o.dst v') w'):wpList P ops Q (o::rest) a w:=by
 obtain⟨i,hi,hl,hk,hj⟩:=info_parts hc;refine wpList_append_own _ hp s x t ho base e i z sz bytes ht hi hl hk hj hz hn v _ _ hs hg ⟨b,0,none⟩ 1 cap (f y) hx (by rw[hf,Nat.one_mul]) ?_ h1 hm hh he ?_
 ·exact qC
 ·intro v' w' ha hd _;refine h v' w' ?_ (WJ hd);unfold OwnRow;rw[List.length_append,List.flatMap_append];simpa using ha
structure EvV where
 callee:Int
 argv:Value
 args:List Int
def VA (x:EvV):List Value:=[.int .i32 x.callee,x.argv]
theorem Wr (x:EvV):(VA x).length=2:=rfl
def Wf (base:Nat) (w:World) (v:Value) (l:List Int):Prop:=w.ownsRow base 21 1 v l.length (l.map (Value.int .i32))
abbrev Zbn (base:Nat) (w:World) (v:Value) (l:List EvV):Prop:=OwnRow VA 2 86 base w v l
def Yy (base:Nat) (w:World) (cv:Value) (calls:List (Int × List Int)):Prop:=
 ∃ evs:List EvV,Zbn base w cv evs∧(evs.map fun e=>(e.callee,e.args))=calls∧∀ e∈evs,Wf base w e.argv e.args
theorem Yy.nil (base:Nat) (w:World):Yy base w (.slice none 0 0) []:=⟨[],OwnRow.nil _ _ _ _ _,rfl,fun _ h=>by cases h⟩
theorem Yy.turn {S : Nat→Prop} {base:Nat} {w w':World} {cv:Value} {calls:List (Int × List Int)} (h:Yy base w cv calls) (t:Turn S w w') (hs:∀ q,base≤q→¬ S q):Yy base w' cv calls:=by
 obtain⟨evs,h1,h2,h3⟩:=h;exact⟨evs,Zj h1 t fun q hq=>hs q (h1.lt q hq).1,h2,fun e he=>Zj (h3 e he) t fun q hq=>hs q ((h3 e he).lt q hq).1⟩
theorem Yy.snoc {base:Nat} {w w':World} {cv cv':Value} {evs:List EvV} {x : EvV} (h1:Zbn base w cv evs) (h3:∀ e∈evs,Wf base w e.argv e.args) (hx:Wf base w x.argv x.args) (hb:(21:TypeId)≠86) (ha:Zbn base w' cv' (evs++[x])) (t:Turn (fun k=>cv.ownBlock=some k) w w') :
  Yy base w' cv' ((evs.map fun e=>(e.callee,e.args))++[(x.callee,x.args)]):=by
 refine⟨_,ha,by simp,fun e he=>?_⟩;rw[List.mem_append,List.mem_singleton]at he;have hk:Wf base w e.argv e.args:=by
  rcases he with he|rfl
  ·exact h3 e he
  ·exact hx
 exact Zj hk t fun q hq=>Xd hk h1 hb q hq
structure Cfg where
 w0:World
 mb:Nat
 base:Nat
 slv:Value
 av:Value
 memv:Value
 ansv:Value
 steps:Int
 outm:Value
 ans:List Int
def mrest (c:Cfg) (cv:Value) (e v st:Int) (n:Nat):List Value:=[c.slv,c.av,c.memv,c.ansv,.int .i64 c.steps,.int .i64 e,.int .i32 v,c.outm,cv,.int .i64 st,.int .i64 n]
structure MRun (c:Cfg) (w:World) (s:St) (cv:Value) (e v st:Int):Prop where
 old:Since c.w0 w
 new:c.w0.heap.size≤c.mb
 lt:c.mb<c.base
 base:c.base≤w.heap.size
 mat:WAt w c.mb s.regs (mrest c cv e v st s.calls.length) 80
 len:s.regs.length=16
 r32:∀ x∈s.regs,In32 x
 s32:∀ x∈s.slots,In32 x
 m32:∀ x∈s.mem,In32 x
 slots:MemIs w c.slv s.slots
 sown:∀ q,c.slv.ownBlock=some q→c.w0.heap.size≤q∧q<c.base∧q≠c.mb
 mem:MemIs w c.outm s.mem
 mown:∀ q,c.outm.ownBlock=some q→c.w0.heap.size≤q∧q<c.base∧q≠c.mb∧c.slv.ownBlock≠some q
 few:(s.calls.length:Int)≤st
 most:st≤1000000
 ans:Zt .i32 c.w0 c.ansv c.ans
 a32:∀ x∈c.ans,In32 x
 calls:Yy c.base w cv s.calls
def ZeS (c:Cfg) (k:Nat):Prop:=k=c.mb∨c.slv.ownBlock=some k∨c.outm.ownBlock=some k
theorem WAt.rcell {w : World} {b : Nat} {R : List Int} {rest:List Value} {T : TypeId} (h:WAt w b R rest T) (i:Nat):w.cell? ⟨b,R.length+i,none⟩=rest[i]?:=by
 simp only[World.cell?,show w.heap[b]? = _ from h]
 rw[List.getElem?_toArray,List.getElem?_append_right kU];simp
theorem WAt.rset {w : World} {b : Nat} {R : List Int} {rest:List Value} {T : TypeId} (h:WAt w b R rest T) (i:Nat) (v:Value):WAt (w.setCell ⟨b,R.length+i,none⟩ v) b R (rest.set i v) T:=by
 unfold WAt at h ⊢;have e:R.map (Value.int .i32)++rest.set i v=(R.map (Value.int .i32)++rest).set (R.length+i) v:=by
  rw[List.set_append_right _ _ kU];simp
 rw[e];exact jD
theorem MRun.cellr {c : Cfg} {w : World} {s : St} {cv:Value} {e v st:Int} (h:MRun c w s cv e v st) (i:Nat):w.cell? ⟨c.mb,16+i,none⟩=(mrest c cv e v st s.calls.length)[i]?:=by
 have:=h.mat.rcell i
 rwa [h.len]at this
theorem MRun.reg {c : Cfg} {w : World} {s : St} {cv:Value} {e v st:Int} (h:MRun c w s cv e v st) {i : Nat} (hi:i<16):w.cell? ⟨c.mb,i,none⟩=some (.int .i32 (s.regs.getD i 0)):=h.mat.cell (by rw[h.len];exact hi)
theorem MRun.size {c : Cfg} {w : World} {s : St} {cv:Value} {e v st:Int} (h:MRun c w s cv e v st):c.mb<w.heap.size:=Nat.lt_of_lt_of_le h.lt h.base
theorem MRun.turn {S : Nat→Prop} {c : Cfg} {w w':World} {s s':St} {cv:Value} {e v st e' v' st':Int} (h:MRun c w s cv e v st) (t:Turn S w w') (hS:∀ q,S q→c.w0.heap.size≤q∧q<c.base)
  (hm:WAt w' c.mb s'.regs (mrest c cv e' v' st' s'.calls.length) 80) (hl:s'.regs.length=16) (hr:∀ x∈s'.regs,In32 x)
  (hs:MemIs w' c.slv s'.slots) (hb:∀ x∈s'.slots,In32 x) (hg:MemIs w' c.outm s'.mem) (hd:∀ x∈s'.mem,In32 x) (hc:s'.calls=s.calls) (hf:(s'.calls.length:Int)≤st') (ha:st'≤1000000):MRun c w' s' cv e' v' st':=by
 have he:w.heap.size≤w'.heap.size:=t.size;refine⟨t.toSince h.old fun k hk hs=>?_,h.new,h.lt,Nat.le_trans h.base he,hm,hl,hr,hb,hd,hs,h.sown,hg,h.mown,hf,ha,h.ans,h.a32,?_⟩
 ·have:=(hS k hs).1;omega
 ·rw[hc];exact h.calls.turn t fun q hq hs=>by have:=(hS q hs).2;omega
theorem MRun.keep {c : Cfg} {w w':World} {s : St} {cv:Value} {e v st:Int} (h:MRun c w s cv e v st) (t:Since w w'):MRun c w' s cv e v st:=
 h.turn (S:=fun _=>False) (Turn.since t) (fun _ h=>h.elim) (h.mat.keep t) h.len h.r32 (h.slots.keep t) h.s32 (h.mem.keep t) h.m32 rfl h.few h.most
theorem MRun.set1 {c : Cfg} {w : World} {s : St} {cv:Value} {e v st e' v' st':Int} (h:MRun c w s cv e v st) (i:Nat) (x:Value) (hx:(mrest c cv e v st s.calls.length).set i x=mrest c cv e' v' st' s.calls.length) (hc:(s.calls.length:Int)≤st') (ha:st'≤1000000) :
  MRun c (w.setCell ⟨c.mb,16+i,none⟩ x) s cv e' v' st':=by
 have t:Turn (fun k=>k=c.mb) w (w.setCell ⟨c.mb,16+i,none⟩ x):=(Turn.refl (fun k=>k=c.mb) w).setCell (p:=⟨c.mb,16+i,none⟩) rfl x;have hb:c.w0.heap.size≤c.mb∧c.mb<c.base:=⟨h.new,h.lt⟩;refine h.turn t (fun q hq=>by subst hq;exact hb) ?_ h.len h.r32 (h.slots.turn t fun q hq e=>(h.sown q hq).2.2 e) h.s32 (h.mem.turn t fun q hq e=>(h.mown q hq).2.2.1 e) h.m32 rfl hc ha
 have:=h.mat.rset i x;rw[h.len,hx]at this;exact this
theorem MRun.setReg {c : Cfg} {w : World} {s : St} {cv:Value} {e v st:Int} (h:MRun c w s cv e v st) {i : Nat} (hi:i<16) {x : Int} (hx:In32 x) :
  MRun c (w.setCell ⟨c.mb,i,none⟩ (.int .i32 x)) { s with regs:=s.regs.set i x } cv e v st:=by
 have t:Turn (fun k=>k=c.mb) w (w.setCell ⟨c.mb,i,none⟩ (.int .i32 x)):=(Turn.refl (fun k=>k=c.mb) w).setCell (p:=⟨c.mb,i,none⟩) rfl _;refine h.turn t (fun q hq=>by subst hq;exact⟨h.new,h.lt⟩) (h.mat.set (by rw[h.len];exact hi) x) (by rw[List.length_set];exact h.len) (fun y hy=>?_) (h.slots.turn t fun q hq e=>(h.sown q hq).2.2 e) h.s32 (h.mem.turn t fun q hq e=>(h.mown q hq).2.2.1 e) h.m32 rfl h.few h.most
 exact yY
def StepQ (c:Cfg) (w:World) (s:St) (cv:Value) (st:Int) (e:Ending) (w':World):Prop:=
 e=.returned (.bool (!decide (c.steps≤st)))∧MRun c w' s cv (if c.steps≤st then 3 else 0) 0 (if c.steps≤st then st else st+1)∧Turn (fun q=>q=c.mb) w w'
theorem QQ (c:Cfg) (s:St) (cv:Value) (st:Int) (w:World) (h:MRun c w s cv 0 0 st) (hc:c.steps≤1000000) (h0:0≤st) :
  Calls Tryz.prog 66 #[.pointer (some ⟨c.mb,0,none⟩)] w (StepQ c w s cv st):=by
 have g4:w.cell? ⟨c.mb,20,none⟩=some (.int .i64 c.steps):=h.cellr 4;have g9:w.cell? ⟨c.mb,25,none⟩=some (.int .i64 st):=h.cellr 9;have g5:w.cell? ⟨c.mb,21,none⟩=some (.int .i64 0):=h.cellr 5;have fz:=h.mat.frozen;have hm:=h.most;have hf:=h.few;unfold StepQ;by_cases ha:c.steps≤st
 ·have hd:decide (c.steps≤st)=true:=decide_eq_true ha;rw[if_pos ha,if_pos ha,hd];have H:=hid h;clear h;generalize c.steps=cs at *;go_enter Tryz.func66,Tryz.ntmps66
  go_wp2_with fail
  go_quiet (fail)
  go_wp2
  go_ret
  exact⟨rfl,(H.out.keep (Since.drewN (Since.refl _) _)).set1 5 _ rfl hf hm,(Turn.since (S:=fun q=>q=c.mb) (Since.drewN (Since.refl _) _)).setCell (p:=⟨c.mb,21,none⟩) rfl _⟩
 ·have hd:decide (c.steps≤st)=false:=decide_eq_false ha;rw[if_neg ha,if_neg ha,hd];have H:=hid h;clear h;have HM:=hid hm;clear hm;have hb:st<1000000:=kT
  generalize c.steps=cs at *;go_enter Tryz.func66,Tryz.ntmps66
  go_wp2_with fail
  go_quiet (fail)
  go_wp2
  go_ret
  exact⟨rfl,(H.out.keep (Since.drewN (Since.refl _) _)).set1 9 _ rfl kT kT,(Turn.since (S:=fun q=>q=c.mb) (Since.drewN (Since.refl _) _)).setCell (p:=⟨c.mb,25,none⟩) rfl _⟩
end Go.Proofs.YtimpddecdodddaaGreat
