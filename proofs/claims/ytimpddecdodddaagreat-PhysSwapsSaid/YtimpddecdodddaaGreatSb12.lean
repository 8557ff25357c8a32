import Derived.Test.YtimpddecdodddaaGreatSb11
namespace Go.Proofs.YtimpddecdodddaaGreat
open Go.RowKit Go.Lib
set_option linter.unusedVariables false
set_option maxHeartbeats 2000000
set_option maxRecDepth 100000
theorem zE {P:Prop} (h:P:=by
 have hc:=hm.reg (i:=2) (by decide);have hf:=hm.mat.frozen;have hb:=hid hm;clear hm;go_wp2
 go_roundw
 case rel=>exact⟨HT.out.setCell (p:=⟨c.mb,2,none⟩) rfl _,.inr (.inr (.inl ⟨rfl,hb.out.setReg (i:=2) (by decide) ⟨by decide,by decide⟩⟩))⟩
 case measure=>simp[intOf]):P:=h
theorem zF {P:Prop} (h:P:=by
 have hc:=hm.reg (i:=3) (by decide);have hf:=hm.mat.frozen;have hb:=hid hm;clear hm;go_wp2
 go_roundw
 case rel=>exact⟨HT.out.setCell (p:=⟨c.mb,3,none⟩) rfl _,.inr (.inr (.inr ⟨rfl,hb.out.setReg (i:=3) (by decide) ⟨by decide,by decide⟩⟩))⟩
 case measure=>simp[intOf]):P:=h
theorem zI {P:Prop} (h:P:=by
 refine (t.block b h.lt fun hq=>?_).trans h;obtain⟨_,⟨hv,_⟩|⟨g,_,_,hv,_,hg,_⟩⟩:=hx
 ·rw[hv]at hq;cases hq
 ·rw[hv]at hq;obtain rfl:g=b:=Option.some.inj hq;rw[show w.heap[g]? = _ from h]at hg
  simp only[Option.some.injEq,Obj.cells.injEq]at hg;exact ha hg.2.1.symm):P:=h
theorem zJ {P:Prop} (h:P:=by
 have hc:=hm.reg (i:=1) (by decide);have hf:=hm.mat.frozen;have hb:=hid hm;clear hm;go_wp2
 go_roundw
 case rel=>exact⟨HT.out.setCell (p:=⟨c.mb,1,none⟩) rfl _,.inr (.inl ⟨rfl,hb.out.setReg (i:=1) (by decide) ⟨by decide,by decide⟩⟩)⟩
 case measure=>simp[intOf]):P:=h
theorem jz {P:Prop} (h:P:=by simp[World.cell?,show w.heap[b]? = _ from h]):P:=h
theorem jT {P:Prop} (h:P:=by repeat (first | exact trivial | refine⟨Is.stable _,?_⟩ | refine⟨Any.stable,?_⟩ | refine⟨Zn.stable _ _,?_⟩)):P:=h
theorem kO {P:Prop} (h:P:=by kernel_rfl):P:=h
structure MMid (c:Cfg) (w:World) (s:St) (cv:Value) (n:Nat) (e v st:Int):Prop where
 old:Since c.w0 w
 new:c.w0.heap.size≤c.mb
 lt:c.mb<c.base
 base:c.base≤w.heap.size
 mat:WAt w c.mb s.regs (mrest c cv e v st n) 80
 len:s.regs.length=16
 r32:∀ x∈s.regs,In32 x
 s32:∀ x∈s.slots,In32 x
 m32:∀ x∈s.mem,In32 x
 slots:MemIs w c.slv s.slots
 sown:∀ q,c.slv.ownBlock=some q→c.w0.heap.size≤q∧q<c.base∧q≠c.mb
 mem:MemIs w c.outm s.mem
 mown:∀ q,c.outm.ownBlock=some q→c.w0.heap.size≤q∧q<c.base∧q≠c.mb∧c.slv.ownBlock≠some q
 ans:Zt .i32 c.w0 c.ansv c.ans
 a32:∀ x∈c.ans,In32 x
theorem MRun.mid {c : Cfg} {w : World} {s : St} {cv:Value} {e v st:Int} (h:MRun c w s cv e v st):MMid c w s cv s.calls.length e v st:=
 ⟨h.old,h.new,h.lt,h.base,h.mat,h.len,h.r32,h.s32,h.m32,h.slots,h.sown,h.mem,h.mown,h.ans,h.a32⟩
theorem MMid.run {c : Cfg} {w : World} {s : St} {cv:Value} {e v st:Int} (h:MMid c w s cv s.calls.length e v st) (hf:(s.calls.length:Int)≤st) (hm:st≤1000000) (hc:Yy c.base w cv s.calls):MRun c w s cv e v st:=
 ⟨h.old,h.new,h.lt,h.base,h.mat,h.len,h.r32,h.s32,h.m32,h.slots,h.sown,h.mem,h.mown,hf,hm,h.ans,h.a32,hc⟩
theorem MMid.turn {S : Nat→Prop} {c : Cfg} {w w':World} {s : St} {cv:Value} {n : Nat} {e v st:Int} (h:MMid c w s cv n e v st) (t:Turn S w w') (hS:∀ q,S q→c.base≤q):MMid c w' s cv n e v st:=
 ⟨t.toSince h.old fun k hk hs=>(by have:=hS k hs;have:=h.new;have:=h.lt;omega),h.new,h.lt,Nat.le_trans h.base t.size,h.mat.turn t (fun hs=>by have:=hS _ hs;have:=h.lt;omega),h.len,h.r32,h.s32,h.m32,
  h.slots.turn t (fun q hq hs=>by have:=hS q hs;have:=(h.sown q hq).2.1;omega),h.sown,h.mem.turn t (fun q hq hs=>by have:=hS q hs;have:=(h.mown q hq).2.1;omega),h.mown,h.ans,h.a32⟩
theorem MMid.keep {c : Cfg} {w w':World} {s : St} {cv:Value} {n : Nat} {e v st:Int} (h:MMid c w s cv n e v st) (t:Since w w'):MMid c w' s cv n e v st:=h.turn (S:=fun _=>False) (Turn.since t) (fun _ h=>h.elim)
theorem MMid.cellr {c : Cfg} {w : World} {s : St} {cv:Value} {n : Nat} {e v st:Int} (h:MMid c w s cv n e v st) (i:Nat):w.cell? ⟨c.mb,16+i,none⟩=(mrest c cv e v st n)[i]?:=by
 have:=h.mat.rcell i
 rwa [h.len]at this
theorem MMid.own1 {c : Cfg} {w : World} {s s':St} {cv cv':Value} {n n':Nat} {e v st e' v' st':Int} (h:MMid c w s cv n e v st) (a:Addr) (x:Value) (ha:a.block=c.mb) (hm:WAt (w.setCell a x) c.mb s'.regs (mrest c cv' e' v' st' n') 80) (hl:s'.regs.length=16) (hr:∀ x∈s'.regs,In32 x) (hs:s'.slots=s.slots) (hb:s'.mem=s.mem) :
  MMid c (w.setCell a x) s' cv' n' e' v' st':=by
 have t:Turn (fun k=>k=c.mb) w (w.setCell a x):=(Turn.refl (fun k=>k=c.mb) w).setCell (p:=a) ha x;refine⟨t.toSince h.old fun k hk hs=>(by subst hs;have:=h.new;omega),h.new,h.lt,Nat.le_trans h.base t.size,hm,hl,hr,by rw[hs];exact h.s32,by rw[hb];exact h.m32,?_,h.sown,?_,h.mown,h.ans,h.a32⟩
 ·rw[hs];exact h.slots.turn t fun q hq e=>(h.sown q hq).2.2 e
 ·rw[hb];exact h.mem.turn t fun q hq e=>(h.mown q hq).2.2.1 e
theorem MMid.set1 {c : Cfg} {w : World} {s : St} {cv cv':Value} {n n':Nat} {e v st e' v' st':Int} (h:MMid c w s cv n e v st) (i:Nat) (x:Value) (hx:(mrest c cv e v st n).set i x=mrest c cv' e' v' st' n'):MMid c (w.setCell ⟨c.mb,16+i,none⟩ x) s cv' n' e' v' st':=by
 refine h.own1 _ x rfl ?_ h.len h.r32 rfl rfl;have:=h.mat.rset i x
 rwa [h.len,hx]at this
theorem MMid.setReg {c : Cfg} {w : World} {s : St} {cv:Value} {n : Nat} {e v st:Int} (h:MMid c w s cv n e v st) {i : Nat} (hi:i<16) {x : Int} (hx:In32 x):MMid c (w.setCell ⟨c.mb,i,none⟩ (.int .i32 x)) { s with regs:=s.regs.set i x } cv n e v st:=by
 refine h.own1 _ _ rfl (h.mat.set (by rw[h.len];exact hi) x) (by rw[List.length_set];exact h.len) (fun y hy=>?_) rfl rfl;exact yY
theorem VM {w : World} {b b':Nat} {e : TypeId} {size n:Nat} {v : Value} {xs:List Value} (h:w.ownsRow b e size v n xs) (hb:b'≤b):w.ownsRow b' e size v n xs:=by
 obtain⟨h0,h|⟨g,cap,cur,h1,h2,h3⟩⟩:=h
 ·exact⟨h0,.inl h⟩
 ·exact⟨h0,.inr ⟨g,cap,cur,h1,Nat.le_trans hb h2,h3⟩⟩
def YM (w:World) (b:Nat) (imm:Int) (v:Value):Prop:=w.heap[b]? = some (.cells #[.int .i32 imm,v] 86 (0,0))
theorem YM.cell0 {w : World} {b : Nat} {imm:Int} {v : Value} (h:YM w b imm v):w.cell? ⟨b,0,none⟩=some (.int .i32 imm):=by
 exact jz
theorem YM.cell1 {w : World} {b : Nat} {imm:Int} {v : Value} (h:YM w b imm v):w.cell? ⟨b,1,none⟩=some v:=by
 exact jz
theorem YM.frozen {w : World} {b : Nat} {imm:Int} {v : Value} (h:YM w b imm v) (i:Nat):w.frozen? ⟨b,i,none⟩=false:=by
 simp[World.frozen?,show w.heap[b]? = _ from h]
theorem YM.set {w : World} {b : Nat} {imm:Int} {v : Value} (h:YM w b imm v) (x:Value):YM (w.setCell ⟨b,1,none⟩ x) b imm x:=by
 unfold YM at h ⊢;exact jD
theorem YM.keep {w w':World} {b : Nat} {imm:Int} {v : Value} (h:YM w b imm v) (s:Since w w'):YM w' b imm v:=(Below.block s b (Array.getElem?_eq_some_iff.1 h).1).trans h
theorem YM.lt {w : World} {b : Nat} {imm:Int} {v : Value} (h:YM w b imm v):b<w.heap.size:=(Array.getElem?_eq_some_iff.1 h).1
def BoxH (w:World) (b:Nat) (m:Mach) (av:Value):Prop:=w.heap[b]? = some (.cells #[.int .i64 m.op,.int .i64 m.d,.int .i64 m.e,.int .i64 m.a,.int .i64 m.b,.int .i64 m.c,.int .i32 m.imm,av] 36 (0,0))
theorem BoxH.keep {w w':World} {b : Nat} {m : Mach} {av:Value} (h:BoxH w b m av) (s:Since w w'):BoxH w' b m av:=(Below.block s b (Array.getElem?_eq_some_iff.1 h).1).trans h
theorem BoxH.lt {w : World} {b : Nat} {m : Mach} {av:Value} (h:BoxH w b m av):b<w.heap.size:=(Array.getElem?_eq_some_iff.1 h).1
theorem BoxH.cells {w : World} {b : Nat} {m : Mach} {av:Value} (h:BoxH w b m av) (i:Nat):w.cell? ⟨b,i,none⟩=(#[.int .i64 m.op,.int .i64 m.d,.int .i64 m.e,.int .i64 m.a,.int .i64 m.b,.int .i64 m.c,.int .i32 m.imm,av]:Array Value)[i]?:=by
 exact jz
theorem Zf {w : World} {b : Nat} {e : TypeId} {size n:Nat} {v : Value} {xs:List Value} (h:w.ownsRow b e size v n xs):∃ a cap,v=.slice a n cap:=by
 obtain⟨_,⟨h1,h2⟩|⟨g,cap,cur,h1,_⟩⟩:=h
 ·exact⟨none,0,by rw[h1,h2]⟩
 ·exact⟨_,cap,h1⟩
theorem YI {P : Program} {base:Nat} {w : World} {ops:Array Oper} {rest:List Oper} {o : Oper} {a : Act} {Q : Exit→Act→World→Prop} (k:IntKind) (hg:o.guard=none) (s x:Operand) (t:TypeId)
  (ho:o.op=.call { callee:=.builtin .append,args:=#[s,x],argTypes:=#[t,t] })
  (e:TypeId) (z:Value) (bytes:Nat) (ht:P.underlying t=some (.slice e)) (hh:(P.info? e).map (fun i=>(i.zero,i.size,i.bytes))=some (some z,1,bytes)) (hz:z.cells.size=1) (hp:bytes≤8)
  (v xv:Value) (l1 l2:List Int) (hs:a.eval s=v) (hx:a.eval x=xv) (hc:w.ownsRow base e 1 v l1.length (l1.map (Value.int k))) (hq:Zt k w xv l2)
  (he:l1.length+l2.length≤1000000) (hf:base≤w.heap.size)
  (h:∀ v' w',w'.ownsRow base e 1 v' (l1++l2).length ((l1++l2).map (Value.int k))→Turn (fun q=>v.ownBlock=some q) w w'→wpList P ops Q rest (a.put o.dst v') w'):wpList P ops Q (o::rest) a w:=by
 obtain⟨i,hi,hm,hl,hk⟩:=info_parts hh;rcases hq with ⟨ad,hv,rfl⟩|⟨b,off,cap,hv,hr,_,hb,hj⟩
 ·subst hv
  cases ad with
  | none =>
   refine wpList_append_own_none hg s x t ho base e i 1 ht hi v _ _ hs hc hx (h v w ?_ (Turn.refl _ _));simpa using hc
  | some ad =>
   refine wpList_append_own _ hg s x t ho base e i z 1 bytes ht hi hm hl hk hz kS v _ _ hs hc ad 0 0 [] hx rfl (fun j u hu=>by cases hu) (fun u hu=>by cases hu) (by unfold maxLen;simp at he;omega) ?_ hf ?_
   ·have:(l1.length+0)*bytes≤1000000*8:=Nat.mul_le_mul kD hp;omega
   ·intro v' w' ha hd _;exact h v' w' kJ (WJ hd)
 ·subst hv;refine wpList_append_own _ hg s x t ho base e i z 1 bytes ht hi hm hl hk hz kS v _ _ hs hc ⟨b,off,none⟩ l2.length cap (l2.map (Value.int k)) hx kU ?_ ?_ ky ?_ hf ?_
  ·intro j u hu;rw[List.getElem?_map]at hu;obtain⟨n,hn,rfl⟩:=Option.map_eq_some_iff.1 hu;have:=hj j n hn;exact ja
  ·exact jt
  ·have:(l1.length+l2.length)*bytes≤1000000*8:=Nat.mul_le_mul he hp;omega
  ·intro v' w' ha hd _;exact h v' w' kJ (WJ hd)
theorem BoxH.turn {w w':World} {b : Nat} {m : Mach} {av:Value} {base:Nat} {x : Value} {l : List Int} (h:BoxH w b m av) (hx:Wf base w x l) (ha:(21:TypeId)≠36) (t:Turn (fun q=>x.ownBlock=some q) w w'):BoxH w' b m av:=by
 exact zI
theorem YM.ne {w : World} {b : Nat} {imm:Int} {v : Value} {base:Nat} {x : Value} {l : List Int} (h:YM w b imm v) (hx:Wf base w x l) (ha:(21:TypeId)≠86):¬ x.ownBlock=some b:=by
 intro hq;obtain⟨_,⟨hv,_⟩|⟨g,_,_,hv,_,hg,_⟩⟩:=hx
 ·rw[hv]at hq;cases hq
 ·rw[hv]at hq;obtain rfl:g=b:=Option.some.inj hq;rw[show w.heap[g]? = _ from h]at hg
  simp only[Option.some.injEq,Obj.cells.injEq]at hg;exact ha hg.2.1.symm
theorem YM.turn {w w':World} {b : Nat} {imm:Int} {v : Value} {base:Nat} {x : Value} {l : List Int} (h:YM w b imm v) (hx:Wf base w x l) (ha:(21:TypeId)≠86) (t:Turn (fun q=>x.ownBlock=some q) w w'):YM w' b imm v:=by
 exact zI
theorem XZ {w : World} {b : Nat} {e : TypeId} {size n:Nat} {v : Value} {xs:List Value} (h:w.ownsRow b e size v n xs) {q : Nat} (hq:v.ownBlock=some q):∃ cur,w.heap[q]? = some (.cells cur e (0,0)):=by
 obtain⟨_,⟨hv,_⟩|⟨g,_,cur,hv,_,hg,_⟩⟩:=h
 ·rw[hv]at hq;cases hq
 ·rw[hv]at hq;obtain rfl:g=q:=Option.some.inj hq;exact⟨cur,hg⟩
def QG (x:EvV) (v:Value) (w:World):Prop:=∃ b,v=.slice (some ⟨b,0,none⟩) 1 1∧w.heap[b]? = some (.cells (VA x).toArray 86 (0,0))
theorem QG.stable (x:EvV):ZM (QG x):=fun v w w' ⟨b,h1,h2⟩ s=>⟨b,h1,(Below.block s b (Array.getElem?_eq_some_iff.1 h2).1).trans h2⟩
def Zdd (w:World) (e:Ending) (w':World):Prop:=∃ b,e=.returned (.slice (some ⟨b,0,none⟩) 3 3)∧w.heap.size≤b∧w'.heap[b]? = some (.cells #[.int .i64 1,.int .i64 2,.int .i64 3] 3 (0,0))∧Since w w'
theorem ZaK (d e a b cc imm:Int) (args:List Int) (av:Value) (w:World):Calls Tryz.prog 31 #[mv ⟨28,d,e,a,b,cc,imm,args⟩ av] w (Zdd w):=by
 unfold mv;go_enter Tryz.func31,Tryz.ntmps31
 go_wp2
 go_ret
 refine⟨_,rfl,by simp,?_,((Since.refl _).alloc _).alloc _⟩;have:=ZV (w.alloc (.cells #[.int .i64 28,.int .i64 d,.int .i64 e,.int .i64 a,.int .i64 b,.int .i64 cc,.int .i32 imm,av] 36)) (.cells #[.int .i64 1,.int .i64 2,.int .i64 3] 3);rw[show (w.alloc (.cells #[.int .i64 28,.int .i64 d,.int .i64 e,.int .i64 a,.int .i64 b,.int .i64 cc,.int .i32 imm,av] 36)).heap.size=w.heap.size+1 from by simp]at this;exact this
def Kw (s:St) (ans:List Int) (imm:Int) (args:List Int):St:={ s with
 regs:=(((s.regs.set 0 (ans.getD s.calls.length 0)).set 1 24302).set 2 24303).set 3 24304
 calls:=s.calls++[(imm,args.map fun r=>s.regs.getD r.toNat 0)] }
theorem Zc8 (c:Cfg) (s:St) (cv:Value) (st:Int) (d e a b cc imm:Int) (args:List Int) (av:Value) (w:World) (h:MRun c w s cv 0 0 st) (HA:(s.calls.length:Int)<st) (hi:Zi c.w0 av args) (h0:∀ (j:Nat) (x:Int),args[j]? = some x→x=(j:Int)) (tF:args.length≤4) (H7:In32 imm) :
  Calls Tryz.prog 167 #[.agg #[],mv ⟨28,d,e,a,b,cc,imm,args⟩ av,MPtr c] w (DoQ c w cv st (none,Kw s c.ans imm args)):=by
 have tG:=h.size;have hV:=fun w1=>ZaK d e a b cc imm args av w1
 have hW:=h.most;unfold DoQ MPtr;unfold mv at hV ⊢;dsimp only at hV ⊢;obtain⟨aa,ac,ti⟩:=Zb hi;subst ti;generalize hn:args.length=n at *;have HN:=hid hn;clear hn;have HI:=hid hi;clear hi;have H:=hid h;clear h;have HY:=hid hV;clear hV;have Hw:=hid h0;clear h0;have Hn:=hid HA;clear HA;obtain⟨tJ,tI⟩:=H7;go_enter Tryz.func167,Tryz.ntmps167
 go_wp2_with fail
 go_loopw [20] (fun i wr=>∃ k:Nat,k≤n∧i=.int .i64 k∧Since w wr∧BoxH wr (w.heap.size+1) ⟨28,d,e,a,b,cc,imm,args⟩ (.slice aa n ac)∧∃ v,YM wr (w.heap.size+2) imm v∧Wf w.heap.size wr v ((args.take k).map fun r=>s.regs.getD r.toNat 0)) (fun i _=>n-(intOf i).toNat)
 case atStart =>
  have tc:Since w ((w.alloc (.cells #[] 157)).alloc (.cells #[.int .i64 28,.int .i64 d,.int .i64 e,.int .i64 a,.int .i64 b,.int .i64 cc,.int .i32 imm,.slice aa n ac] 36)):=((Since.refl w).alloc _).alloc _;refine⟨0,Nat.zero_le _,rfl,tc.alloc _,BoxH.keep (w:=(w.alloc (.cells #[] 157)).alloc (.cells #[.int .i64 28,.int .i64 d,.int .i64 e,.int .i64 a,.int .i64 b,.int .i64 cc,.int .i32 imm,.slice aa n ac] 36)) (by
   have:=ZV (w.alloc (.cells #[] 157)) (.cells #[.int .i64 28,.int .i64 d,.int .i64 e,.int .i64 a,.int .i64 b,.int .i64 cc,.int .i32 imm,.slice aa n ac] 36);rw[show (w.alloc (.cells #[] 157)).heap.size=w.heap.size+1 from by simp]at this;exact this) ((Since.refl _).alloc _),_,?_,XO _ _ _ _⟩
  have:=ZV ((w.alloc (.cells #[] 157)).alloc (.cells #[.int .i64 28,.int .i64 d,.int .i64 e,.int .i64 a,.int .i64 b,.int .i64 cc,.int .i32 imm,.slice aa n ac] 36)) (.cells #[.int .i32 imm,.slice none 0 0] 86);rw[show ((w.alloc (.cells #[] 157)).alloc (.cells #[.int .i64 28,.int .i64 d,.int .i64 e,.int .i64 a,.int .i64 b,.int .i64 cc,.int .i32 imm,.slice aa n ac] 36)).heap.size=w.heap.size+2 from by simp]at this;exact this
 case round =>
  obtain⟨k,hk,rfl,hs,HP,v,HH,h7⟩:=hrel;have HS:=hid hs;have h4:=hid HP;have hz:=hid HH;have HO:=hid h7;clear hs HP HH h7;by_cases tH:k<n
  ·obtain⟨_,hc⟩:=Zx (HN.out ▸ HI.out);obtain⟨B,off,rfl,hB,hY⟩:=hc (by intro e;have:=HN.out;rw[e]at this;simp at this;omega);obtain⟨x,hx⟩:∃ x,args[k]? = some x:=⟨_,List.getElem?_eq_getElem (by have:=HN.out;omega)⟩
   have te:=((H.out.old.trans HS.out).cell (p:=⟨B,off+k,none⟩) hB).trans (hY k x hx);obtain rfl:=Hw.out k x hx;have HV:(args.take (k+1)).map (fun r=>s.regs.getD r.toNat 0)=(args.take k).map (fun r=>s.regs.getD r.toNat 0)++[s.regs.getD k 0]:=by
    rw[List.take_add_one,hx];simp
   have H6:k<16:=kT
   have h6:=fun w1 (hs:Since w w1)=>(H.out.keep hs).reg H6
   have HG:((args.take k).map (fun r=>s.regs.getD r.toNat 0)).length=k:=by rw[List.length_map,List.length_take];have:=HN.out;omega
   generalize hL:(args.take k).map (fun r=>s.regs.getD r.toNat 0)=L at *;have HL:=hid hL;have H9:=hid h6;have tD:=hid HV;have tx:=hid HG;clear hY hc hB hx HV h6 hL HG;generalize s.regs.getD k 0=xr at *;go_wp2_with fail
   refine Zg 9 rfl kK kK kK kS
    [Is (.pointer (some ⟨w.heap.size+2,1,none⟩)),Is v,Is (.pointer (some ⟨c.mb,0,none⟩)),Is (.int .i64 k),Is (.pointer (some ⟨c.mb,0,none⟩)),Is (.pointer (some ⟨c.mb,0,none⟩)),Is (.pointer (some ⟨c.mb,k,none⟩)),Is (.int .i32 xr),Zn .i32 [xr]]
    jT ⟨?_,?_,?_,?_,?_,?_,?_,?_,?_,trivial⟩ ?_
   rotate_right
   ·intro vs w1 hs hk;simp only[List.take,List.drop,putAll,Act.put,Zc,Ze,Is,List.setIfInBounds_toArray,List.set_cons_zero,List.set_cons_succ,Nat.reduceAdd]at hk ⊢;try simp only[hk]
    have HE:Zt .i32 w1 (vs 8) [xr]:=hk.2.2.2.2.2.2.2.2.1;have ha:=hid hs;clear hs hk;generalize vs 8=xv at *;have tw:=hid HE;clear HE;refine YI (base:=w.heap.size) .i32 rfl _ _ 41 rfl 21 (.int .i32 0) 4 Tryz.underlying41 kO rfl kS _ _ L [xr] rfl rfl (Zs HO.out ha.out) tw.out (by rw[tx.out];simp;omega) (HS.out.trans ha.out).size ?_;intro v2 w2 hg hr;have hh:YM w2 (w.heap.size+2) imm v:=(hz.out.keep ha.out).turn (Zs HO.out ha.out) kS hr;have Hz:=fun q (hq:v.ownBlock=some q)=>(World.ownsRow.lt HO.out q hq).1
    have HC:Since w w2:=Turn.toSince hr (HS.out.trans ha.out) fun q hq hs=>by have:=Hz q hs;omega
    have tg:(21:TypeId)≠36:=kS
    have Hf:BoxH w2 (w.heap.size+1) ⟨28,d,e,a,b,cc,imm,args⟩ (.slice (some ⟨B,off,none⟩) n ac):=(h4.out.keep ha.out).turn (Zs HO.out ha.out) kS hr;obtain⟨a2,c2,rfl⟩:=Zf hg;have th:=hh.cell1;have hf:=hh.frozen;have tE:=hh.lt;have Hr:=hid hh;have tu:=hid hg;have ts:=hid HC;have Hu:=hid Hf;clear hh hg HC Hf hr Hz tg te;go_wp2
    go_roundw
    case rel =>
     have t:Turn (fun q=>q=w.heap.size+2) w2 (w2.setCell ⟨w.heap.size+2,1,none⟩ (.slice a2 (L.length+1) c2)):=(Turn.refl (fun q=>q=w.heap.size+2) w2).setCell (p:=⟨w.heap.size+2,1,none⟩) rfl _;refine⟨k+1,kT,by go_num,t.toSince ts.out (fun q hq e=>by omega),(t.block _ Hu.out.lt kT).trans Hu.out,_,Hr.out.set _,?_⟩;rw[tD.out];have ho:Wf w.heap.size w2 (.slice a2 (L++[xr]).length c2) (L++[xr]):=tu.out;rw[List.length_append]at ho;exact Zj ho t fun q hq e=>by subst e;exact Hr.out.ne ho kS hq
    case measure=>simp[intOf];omega
   all_goals
    intro vs w1 hs hk _;simp only[List.take,putAll,Act.put,Zk,Ze,Is,List.setIfInBounds_toArray,List.set_cons_zero,List.set_cons_succ,Nat.reduceAdd]at hk ⊢;try simp only[hk]
   ·exact jK
   ·have hc:=(hz.out.keep hs).cell1;have hl:=(hz.out.keep hs).lt;exact jK
   iterate 5
    ·exact jK
   ·have hc:=H9.out w1 (HS.out.trans hs);exact jK
   ·go_wp2
    exact⟨_,rfl,Xr [xr] _ 1 (Nat.le_refl _) kS (ZV _ _) (by intro j n hj;cases j with | zero=>simpa using hj | succ j=>simp at hj),(Since.refl _).alloc _⟩
  ·obtain rfl:k=n:=kT
   have hG:=HO.out;rw[List.take_of_length_le (by have:=HN.out;omega)]at hG;generalize HW:args.map (fun r=>s.regs.getD r.toNat 0)=L at hG;have H1:=hid HW;clear HW;have hm:=H.out.keep HS.out;obtain⟨evs,hS,hh,h8⟩:=hm.calls;obtain⟨ca,ccap,tf⟩:=hS.shape;subst tf;have HJ:evs.length=s.calls.length:=by rw[←hh,List.length_map]
   obtain⟨va,vc,hv⟩:=Zf hG;subst hv;have tv:=hid hG;have HM:=hid hm;have h3:=hid hS;have tA:=hid hh;have tz:=hid h8;have H2:=hid HJ;have hF:=zH (evs.length+1≤1000000) (by have:=Hn.out;omega);have HB:c.base≤w.heap.size:=H.out.base;have HZ:=hid HB;clear hG hm hS hh h8 HO HJ HB;go_wp2_with fail
   refine Zg 7 rfl kK kK kK kS
    [Is (.pointer (some ⟨c.mb,0,none⟩)),Is (.pointer (some ⟨c.mb,0,none⟩)),Is (.pointer (some ⟨c.mb,21,none⟩)),Is (.pointer (some ⟨c.mb,24,none⟩)),Is (.slice ca evs.length ccap),Is (.agg #[.int .i32 imm,.slice va L.length vc]),QG ⟨imm,.slice va L.length vc,L⟩]
    (by repeat (first | exact trivial | refine⟨Is.stable _,?_⟩ | refine⟨QG.stable _,?_⟩)) ⟨?_,?_,?_,?_,?_,?_,?_,trivial⟩ ?_
   rotate_right
   ·intro vs w1 hs hk;simp only[List.take,List.drop,putAll,Act.put,Zc,Ze,Is,List.setIfInBounds_toArray,List.set_cons_zero,List.set_cons_succ,Nat.reduceAdd]at hk ⊢;try simp only[hk]
    obtain⟨b1,HU,HR⟩:=hk.2.2.2.2.2.2.1;simp only[HU];have ha:=hid hs;have tC:=hid HR;clear hs hk HU HR;refine V1 (base:=c.base) VA 2 Wr kS rfl _ _ 45 rfl 86 (.agg #[.int .i32 0,.slice none 0 0]) 32 Tryz.underlying45 kO rfl (.slice ca evs.length ccap) evs ⟨imm,.slice va L.length vc,L⟩ b1 1 86 rfl rfl (h3.out.keep ha.out) tC.out (by simp[VA,Value.oneCell']) (by have:=hF.out;unfold maxLen;omega) (by have:=hF.out;omega) (Nat.le_trans HZ.out (HS.out.trans ha.out).size) ?_;intro v2 w2 hg hr;have hP:=Yy.snoc (h3.out.keep ha.out) (fun e he=>Zs (tz.out e he) ha.out) (x:=⟨imm,.slice va L.length vc,L⟩) (Zs (VM tv.out HZ.out) ha.out) kS hg hr
    rw[tA.out]at hP;obtain⟨a2,c2,rfl⟩:=Zf hg;have hw:MMid c w2 s (.slice ca evs.length ccap) s.calls.length 0 0 st:=(HM.out.keep ha.out).mid.turn hr fun q hq=>(World.ownsRow.lt h3.out q hq).1
    have He:BoxH w2 (w.heap.size+1) ⟨28,d,e,a,b,cc,imm,args⟩ (.slice aa k ac):=(hr.block _ (h4.out.keep ha.out).lt fun hq=>by
     obtain⟨cur,hT⟩:=XZ (h3.out.keep ha.out) hq;have h2:=(h4.out.keep ha.out);rw[show w1.heap[w.heap.size+1]? = _ from h2]at hT
     simp only[Option.some.injEq,Obj.cells.injEq]at hT;exact absurd hT.2.1 kS).trans (h4.out.keep ha.out)
    have g24:w2.cell? ⟨c.mb,24,none⟩=some (.slice ca evs.length ccap):=hw.cellr 8;have g0:w2.cell? ⟨c.mb,0,none⟩=some (.int .i32 (s.regs.getD 0 0)):=hw.mat.cell (by rw[hw.len];decide);have hf:=hw.mat.frozen;have ta:=hid hw;have H8:=hid hP;have tq:=zH (Turn (Bz c (.slice ca evs.length ccap)) w w2) ((Turn.since (HS.out.trans ha.out)).trans (hr.mono fun _ _ h=>.inr h));have Ht:=hid He;clear hP hw He hg hr;go_wp2_with fail
    have hX:MMid c ((w2.setCell ⟨c.mb,24,none⟩ (.slice a2 (evs.length+1) c2)).setCell ⟨c.mb,0,none⟩ (.int .i32 0)) { s with regs:=s.regs.set 0 0 } (.slice a2 (evs.length+1) c2) s.calls.length 0 0 st:=(ta.out.set1 8 _ rfl).setReg (i:=0) kS ⟨kS,kS⟩;have t3:Turn (fun q=>q=c.mb) w2 ((w2.setCell ⟨c.mb,24,none⟩ (.slice a2 (evs.length+1) c2)).setCell ⟨c.mb,0,none⟩ (.int .i32 0)):=((Turn.refl (fun q=>q=c.mb) w2).setCell (p:=⟨c.mb,24,none⟩) rfl _).setCell (p:=⟨c.mb,0,none⟩) rfl _;have HX:=hid (tq.out.trans (t3.mono fun _ _ h=>.inl (.inl h)))
    have hR:=H.out.lt;have hC:=H8.out.turn t3 (fun q hq e=>by omega);rw[List.length_append]at hC;have hZ:BoxH ((w2.setCell ⟨c.mb,24,none⟩ (.slice a2 (evs.length+1) c2)).setCell ⟨c.mb,0,none⟩ (.int .i32 0)) (w.heap.size+1) ⟨28,d,e,a,b,cc,imm,args⟩ (.slice aa k ac):=(t3.block _ Ht.out.lt kT).trans Ht.out;generalize (w2.setCell ⟨c.mb,24,none⟩ (.slice a2 (evs.length+1) c2)).setCell ⟨c.mb,0,none⟩ (.int .i32 0)=w3 at *;obtain⟨na,nc,hE⟩:=Zb H.out.ans;have g26:w3.cell? ⟨c.mb,26,none⟩=some (.int .i64 s.calls.length):=hX.cellr 10;have g19:w3.cell? ⟨c.mb,19,none⟩=some (.slice na c.ans.length nc):=(hX.cellr 3).trans (congrArg some hE);have hO:=hid hX;have H0:=hid hC;have H3:=hid hZ;have H4:=hid hE;clear hX hC hZ t3 hE hR g24 g0 hf;by_cases Hj:s.calls.length<c.ans.length
    ·obtain⟨_,HK⟩:=Zx (H4.out ▸ H.out.ans);obtain⟨AB,aoff,rfl,tj,hJ⟩:=HK (by intro e;rw[e]at Hj;simp at Hj);have Hi:c.ans[s.calls.length]? = some (c.ans.getD s.calls.length 0):=by rw[List.getD_eq_getElem?_getD,List.getElem?_eq_getElem Hj];rfl
     have H5:In32 (c.ans.getD s.calls.length 0):=H.out.a32 _ (List.mem_of_getElem? Hi);have Hb:=hJ _ _ Hi;have Ha:=fun w1 (h1:Since c.w0 w1)=>(h1.cell (p:=⟨AB,aoff+s.calls.length,none⟩) tj).trans Hb
     have tB:=hid Ha;generalize Hx:c.ans.getD s.calls.length 0=xa at *;have tn:=hid Hx;clear HK hJ Hi Hb Ha Hx
     go_quiet (fail)
     go_wp2_with fail
     refine Zg 15 rfl kK kK kK kS
      [Is (.pointer (some ⟨c.mb,0,none⟩)),Is (.pointer (some ⟨c.mb,0,none⟩)),Is (.pointer (some ⟨c.mb,0,none⟩)),Is (.pointer (some ⟨c.mb,17,none⟩)),Is (.pointer (some ⟨c.mb,19,none⟩)),Is (.slice (some ⟨AB,aoff,none⟩) c.ans.length nc),Is (.pointer (some ⟨c.mb,0,none⟩)),Is (.pointer (some ⟨c.mb,0,none⟩)),Is (.pointer (some ⟨c.mb,26,none⟩)),Is (.int .i64 s.calls.length),Is (.pointer (some ⟨AB,aoff+s.calls.length,none⟩)),Is (.int .i32 xa),Is (.pointer (some ⟨c.mb,0,none⟩)),Is (.pointer (some ⟨c.mb,0,none⟩)),Is (.pointer (some ⟨c.mb,0,none⟩))]
      jT ⟨?_,?_,?_,?_,?_,?_,?_,?_,?_,?_,?_,?_,?_,?_,?_,trivial⟩ ?_
     rotate_right
     ·intro vs w1 hs hk;have hs:=Since.trans (Since.drewN (Since.refl w3) nq) hs;simp only[List.take,List.drop,putAll,Act.put,Zc,Ze,Is,List.setIfInBounds_toArray,List.set_cons_zero,List.set_cons_succ,Nat.reduceAdd]at hk ⊢;try simp only[hk]
      have hI:=hO.out.keep hs;have hc:w1.cell? ⟨c.mb,0,none⟩=some (.int .i32 ((s.regs.set 0 0).getD 0 0)):=hI.mat.cell (by rw[hI.len];decide);have hf:=hI.mat.frozen;have Hq:=hid hI;have tt:=hid (H0.out.turn (Turn.since (S:=fun _=>False) hs) fun _ _ h=>h)
      have h5:=hid (H3.out.keep hs);have tr:=hid (HX.out.trans (Turn.since hs));clear hI hf hs hk;have HF:MMid c (w1.setCell ⟨c.mb,0,none⟩ (.int .i32 xa)) { s with regs:=s.regs.set 0 xa } (.slice a2 (evs.length+1) c2) s.calls.length 0 0 st:=by
       have h1:=Hq.out.setReg (i:=0) kS H5
       rwa [show ({ s with regs:=s.regs.set 0 0 }:St).regs.set 0 xa=s.regs.set 0 xa from by simp]at h1
      have t5:Turn (fun q=>q=c.mb) w1 (w1.setCell ⟨c.mb,0,none⟩ (.int .i32 xa)):=(Turn.refl (fun q=>q=c.mb) w1).setCell (p:=⟨c.mb,0,none⟩) rfl _;have hR:=H.out.lt;have HD:=tt.out.turn t5 (fun q hq e=>by omega);have HQ:BoxH (w1.setCell ⟨c.mb,0,none⟩ (.int .i32 xa)) (w.heap.size+1) ⟨28,d,e,a,b,cc,imm,args⟩ (.slice aa k ac):=(t5.block _ h5.out.lt kT).trans h5.out;have hN:=hid HF;have Ho:=hid HD;have Hv:=hid HQ;have Hm:=hid (tr.out.trans (t5.mono fun _ _ h=>.inl (.inl h)))
      clear HF HD HQ t5 hR;have g26:w1.cell? ⟨c.mb,26,none⟩=some (.int .i64 s.calls.length):=Hq.out.cellr 10;have Hc:∀ i,w1.cell? ⟨w.heap.size+1,i,none⟩=_:=fun i=>h5.out.cells i
      have Hg:=h5.out.lt;have hf:=Hq.out.mat.frozen;have td:s.calls.length≤1000000:=by have:=hF.out;have:=H2.out;omega
      go_wp2_with fail
      have hH:MRun c ((w1.setCell ⟨c.mb,0,none⟩ (.int .i32 xa)).setCell ⟨c.mb,26,none⟩ (.int .i64 ((s.calls.length:Int)+1))) { s with regs:=(s.regs.set 0 xa),calls:=s.calls++[(imm,L)] } (.slice a2 (evs.length+1) c2) 0 0 st:=by
       have t:Turn (fun q=>q=c.mb) (w1.setCell ⟨c.mb,0,none⟩ (.int .i32 xa)) ((w1.setCell ⟨c.mb,0,none⟩ (.int .i32 xa)).setCell ⟨c.mb,26,none⟩ (.int .i64 ((s.calls.length:Int)+1))):=(Turn.refl (fun q=>q=c.mb) (w1.setCell ⟨c.mb,0,none⟩ (.int .i32 xa))).setCell (p:=⟨c.mb,26,none⟩) rfl _;have h1:=hN.out.set1 (n':=s.calls.length+1) (cv':=.slice a2 (evs.length+1) c2) (e':=0) (v':=0) (st':=st) 10 (.int .i64 ((s.calls.length:Int)+1)) (by simp[mrest]);refine MMid.run (s:={ s with regs:=(s.regs.set 0 xa),calls:=s.calls++[(imm,L)] }) ⟨h1.old,h1.new,h1.lt,h1.base,?_,h1.len,h1.r32,h1.s32,h1.m32,h1.slots,h1.sown,h1.mem,h1.mown,h1.ans,h1.a32⟩ ?_ hW (Ho.out.turn t fun q hq e=>by have:=H.out.lt;omega)
       ·rw[List.length_append];exact h1.mat
       ·rw[List.length_append];have:=Hn.out;simp;omega
      have t6:Turn (fun q=>q=c.mb) (w1.setCell ⟨c.mb,0,none⟩ (.int .i32 xa)) ((w1.setCell ⟨c.mb,0,none⟩ (.int .i32 xa)).setCell ⟨c.mb,26,none⟩ (.int .i64 ((s.calls.length:Int)+1))):=(Turn.refl (fun q=>q=c.mb) (w1.setCell ⟨c.mb,0,none⟩ (.int .i32 xa))).setCell (p:=⟨c.mb,26,none⟩) rfl _;have Hl:=hid (Hm.out.trans (t6.mono fun _ _ h=>.inl (.inl h)))
      clear t6;generalize (w1.setCell ⟨c.mb,0,none⟩ (.int .i32 xa)).setCell ⟨c.mb,26,none⟩ (.int .i64 ((s.calls.length:Int)+1))=w6 at *;have hM:=hid hH;clear g26 Hc Hg hf hH hc;refine (HY.out _).mono ?_;rintro e7 w7 ⟨b7,rfl,Hh,hp,hy⟩;have hK:w7.cell? ⟨b7,0,none⟩=some (.int .i64 1):=by simp[World.cell?,hp]
      have hQ:b7≠c.mb:=by have:=hM.out.size;omega
      have hU:b7<w7.heap.size:=(Array.getElem?_eq_some_iff.1 hp).1;have Hp:=hid (hM.out.keep hy);have Hk:=hid (Hl.out.trans (Turn.since hy));have Hs:=hid hp;clear Hh hp hy hK;go_wp2
      go_loopw [90] (fun i wr=>Turn (fun q=>q=c.mb) w7 wr∧(i=.int .i64 0∧MRun c wr { s with regs:=(s.regs.set 0 xa),calls:=s.calls++[(imm,L)] } (.slice a2 (evs.length+1) c2) 0 0 st∨i=.int .i64 1∧MRun c wr { s with regs:=((s.regs.set 0 xa).set 1 24302),calls:=s.calls++[(imm,L)] } (.slice a2 (evs.length+1) c2) 0 0 st∨i=.int .i64 2∧MRun c wr { s with regs:=(((s.regs.set 0 xa).set 1 24302).set 2 24303),calls:=s.calls++[(imm,L)] } (.slice a2 (evs.length+1) c2) 0 0 st∨i=.int .i64 3∧MRun c wr { s with regs:=((((s.regs.set 0 xa).set 1 24302).set 2 24303).set 3 24304),calls:=s.calls++[(imm,L)] } (.slice a2 (evs.length+1) c2) 0 0 st)) (fun i _=>3-(intOf i).toNat)
      case atStart=>exact⟨Turn.refl _ _,.inl ⟨rfl,Hp.out⟩⟩
      case round =>
       obtain⟨ht,hD⟩:=hrel;have hu:wr.heap[b7]? = some (.cells #[.int .i64 1,.int .i64 2,.int .i64 3] 3 (0,0)):=(ht.block b7 hU hQ).trans Hs.out;have hK:wr.cell? ⟨b7,0,none⟩=some (.int .i64 1):=by simp[World.cell?,hu]
       have tm:wr.cell? ⟨b7,1,none⟩=some (.int .i64 2):=by simp[World.cell?,hu]
       have tl:wr.cell? ⟨b7,2,none⟩=some (.int .i64 3):=by simp[World.cell?,hu]
       have HT:=hid ht;clear ht hu;rcases hD with ⟨rfl,hm⟩|⟨rfl,hm⟩|⟨rfl,hm⟩|⟨rfl,hm⟩
       ·exact zJ
       ·exact zE
       ·exact zF
       ·have hb:=hid hm;clear hm;go_wp2
        go_ret
        exact⟨rfl,⟨_,by
         have h9:=hb.out;unfold Kw;rw[H1.out,show c.ans.getD s.calls.length 0=xa from tn.out];exact h9⟩,Hk.out.trans (HT.out.mono fun _ _ h=>.inl (.inl h))⟩
     all_goals
      intro vs w1 hs hk _;have hs:=Since.trans (Since.drewN (Since.refl w3) nq) hs;simp only[List.take,putAll,Act.put,Zk,Ze,Is,List.setIfInBounds_toArray,List.set_cons_zero,List.set_cons_succ,Nat.reduceAdd]at hk ⊢;try simp only[hk]
     iterate 5
      ·exact jK
     ·have hc:w1.cell? ⟨c.mb,19,none⟩=some (.slice (some ⟨AB,aoff,none⟩) c.ans.length nc):=((hO.out.keep hs).cellr 3).trans (congrArg some H4.out);exact jK
     iterate 3
      ·exact jK
     ·have hc:w1.cell? ⟨c.mb,26,none⟩=some (.int .i64 s.calls.length):=(hO.out.keep hs).cellr 10;exact jK
     ·exact jK
     ·have hc:=tB.out w1 (hO.out.keep hs).old;exact jK
     iterate 3
      ·exact jK
    ·have hd:decide ((s.calls.length:Int)<(c.ans.length:Int))=false:=by simp;omega
     have Hy:c.ans.getD s.calls.length 0=0:=by rw[List.getD_eq_getElem?_getD,List.getElem?_eq_none kT];rfl
     have tp:=hid Hy;clear Hy
     go_quiet (fail)
     have hA:Since w3 (w3.drewN nq):=Since.drewN (Since.refl w3) _;have hN:=hid (hO.out.keep hA);have Ho:=hid (H0.out.turn (Turn.since (S:=fun _=>False) hA) fun _ _ h=>h)
     have Hv:=hid (H3.out.keep hA);have Hm:=hid (HX.out.trans (Turn.since hA));generalize w3.drewN nq=w5 at *;have g26:w5.cell? ⟨c.mb,26,none⟩=some (.int .i64 s.calls.length):=hN.out.cellr 10;have Hc:∀ i,w5.cell? ⟨w.heap.size+1,i,none⟩=_:=fun i=>Hv.out.cells i
     have Hg:=Hv.out.lt;have hf:=hN.out.mat.frozen;have td:s.calls.length≤1000000:=by have:=hF.out;have:=H2.out;omega
     go_wp2_with fail
     have hH:MRun c (w5.setCell ⟨c.mb,26,none⟩ (.int .i64 ((s.calls.length:Int)+1))) { s with regs:=(s.regs.set 0 0),calls:=s.calls++[(imm,L)] } (.slice a2 (evs.length+1) c2) 0 0 st:=by
      have t:Turn (fun q=>q=c.mb) w5 (w5.setCell ⟨c.mb,26,none⟩ (.int .i64 ((s.calls.length:Int)+1))):=(Turn.refl (fun q=>q=c.mb) w5).setCell (p:=⟨c.mb,26,none⟩) rfl _;have h1:=hN.out.set1 (n':=s.calls.length+1) (cv':=.slice a2 (evs.length+1) c2) (e':=0) (v':=0) (st':=st) 10 (.int .i64 ((s.calls.length:Int)+1)) (by simp[mrest]);refine MMid.run (s:={ s with regs:=(s.regs.set 0 0),calls:=s.calls++[(imm,L)] }) ⟨h1.old,h1.new,h1.lt,h1.base,?_,h1.len,h1.r32,h1.s32,h1.m32,h1.slots,h1.sown,h1.mem,h1.mown,h1.ans,h1.a32⟩ ?_ hW (Ho.out.turn t fun q hq e=>by have:=H.out.lt;omega)
      ·rw[List.length_append];exact h1.mat
      ·rw[List.length_append];have:=Hn.out;simp;omega
     have t6:Turn (fun q=>q=c.mb) w5 (w5.setCell ⟨c.mb,26,none⟩ (.int .i64 ((s.calls.length:Int)+1))):=(Turn.refl (fun q=>q=c.mb) w5).setCell (p:=⟨c.mb,26,none⟩) rfl _;have Hl:=hid (Hm.out.trans (t6.mono fun _ _ h=>.inl (.inl h)))
     clear t6;generalize w5.setCell ⟨c.mb,26,none⟩ (.int .i64 ((s.calls.length:Int)+1))=w6 at *;have hM:=hid hH;clear g26 Hc Hg hf hH;refine (HY.out _).mono ?_;rintro e7 w7 ⟨b7,rfl,Hh,hp,hy⟩;have hK:w7.cell? ⟨b7,0,none⟩=some (.int .i64 1):=by simp[World.cell?,hp]
     have hQ:b7≠c.mb:=by have:=hM.out.size;omega
     have hU:b7<w7.heap.size:=(Array.getElem?_eq_some_iff.1 hp).1;have Hp:=hid (hM.out.keep hy);have Hk:=hid (Hl.out.trans (Turn.since hy));have Hs:=hid hp;clear Hh hp hy hK;go_wp2
     go_loopw [90] (fun i wr=>Turn (fun q=>q=c.mb) w7 wr∧(i=.int .i64 0∧MRun c wr { s with regs:=(s.regs.set 0 0),calls:=s.calls++[(imm,L)] } (.slice a2 (evs.length+1) c2) 0 0 st∨i=.int .i64 1∧MRun c wr { s with regs:=((s.regs.set 0 0).set 1 24302),calls:=s.calls++[(imm,L)] } (.slice a2 (evs.length+1) c2) 0 0 st∨i=.int .i64 2∧MRun c wr { s with regs:=(((s.regs.set 0 0).set 1 24302).set 2 24303),calls:=s.calls++[(imm,L)] } (.slice a2 (evs.length+1) c2) 0 0 st∨i=.int .i64 3∧MRun c wr { s with regs:=((((s.regs.set 0 0).set 1 24302).set 2 24303).set 3 24304),calls:=s.calls++[(imm,L)] } (.slice a2 (evs.length+1) c2) 0 0 st)) (fun i _=>3-(intOf i).toNat)
     case atStart=>exact⟨Turn.refl _ _,.inl ⟨rfl,Hp.out⟩⟩
     case round =>
      obtain⟨ht,hD⟩:=hrel;have hu:wr.heap[b7]? = some (.cells #[.int .i64 1,.int .i64 2,.int .i64 3] 3 (0,0)):=(ht.block b7 hU hQ).trans Hs.out;have hK:wr.cell? ⟨b7,0,none⟩=some (.int .i64 1):=by simp[World.cell?,hu]
      have tm:wr.cell? ⟨b7,1,none⟩=some (.int .i64 2):=by simp[World.cell?,hu]
      have tl:wr.cell? ⟨b7,2,none⟩=some (.int .i64 3):=by simp[World.cell?,hu]
      have HT:=hid ht;clear ht hu;rcases hD with ⟨rfl,hm⟩|⟨rfl,hm⟩|⟨rfl,hm⟩|⟨rfl,hm⟩
      ·exact zJ
      ·exact zE
      ·exact zF
      ·have hb:=hid hm;clear hm;go_wp2
       go_ret
       exact⟨rfl,⟨_,by
        have h9:=hb.out;unfold Kw;rw[H1.out,show c.ans.getD s.calls.length 0=0 from tp.out];exact h9⟩,Hk.out.trans (HT.out.mono fun _ _ h=>.inl (.inl h))⟩
   all_goals
    intro vs w1 hs hk _;simp only[List.take,putAll,Act.put,Zk,Ze,Is,List.setIfInBounds_toArray,List.set_cons_zero,List.set_cons_succ,Nat.reduceAdd]at hk ⊢;try simp only[hk]
   iterate 4
    ·exact jK
   ·have hc:w1.cell? ⟨c.mb,24,none⟩=some (.slice ca evs.length ccap):=(HM.out.keep hs).cellr 8;exact jK
   ·have tK:=(hz.out.keep hs).cell0;have th:=(hz.out.keep hs).cell1;have hl:=(hz.out.keep hs).lt;exact jK
   ·go_wp2
    exact⟨_,rfl,⟨_,rfl,ZV _ _⟩,(Since.refl _).alloc _⟩
end Go.Proofs.YtimpddecdodddaaGreat
