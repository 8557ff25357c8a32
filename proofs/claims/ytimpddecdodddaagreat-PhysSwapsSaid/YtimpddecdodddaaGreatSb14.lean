import Derived.Test.YtimpddecdodddaaGreatSb13
namespace Go.Proofs.YtimpddecdodddaaGreat
open Go.RowKit
set_option linter.unusedVariables false
set_option maxHeartbeats 400000
set_option maxRecDepth 100000
theorem yj {P:Prop} (h:P:=by
 clear ho;go_enter Tryz.func67,Tryz.ntmps67
 go_wp2
 go_ret
 exact⟨rfl,(Since.refl _).alloc _⟩):P:=h
def WhoQ (T:TypeId) (w:World) (e:Ending) (w':World):Prop:=e=.returned (.iface T (.agg #[]))∧Since w w'
theorem ZeV (m:Mach) (av:Value) (w:World) (ho:m.op=2):Calls Tryz.prog 67 #[mv m av] w (WhoQ 155 w):=by
 unfold mv;have y2:(m.op==2)=true:=beq_iff_eq.2 kT;exact yj
theorem Zeb (m:Mach) (av:Value) (w:World) (ho:m.op=30):Calls Tryz.prog 67 #[mv m av] w (WhoQ 156 w):=by
 unfold mv;have n2:=zN m.op 2;have y30:(m.op==30)=true:=beq_iff_eq.2 kT;exact yj
theorem Zea (m:Mach) (av:Value) (w:World) (ho:m.op=31):Calls Tryz.prog 67 #[mv m av] w (WhoQ 156 w):=by
 unfold mv;have n2:=zN m.op 2;have n30:=zN m.op 30;have y31:(m.op==31)=true:=beq_iff_eq.2 kT;exact yj
theorem Zec (m:Mach) (av:Value) (w:World) (ho:m.op=28):Calls Tryz.prog 67 #[mv m av] w (WhoQ 157 w):=by
 unfold mv;have n2:=zN m.op 2;have n30:=zN m.op 30;have n31:=zN m.op 31;have y28:(m.op==28)=true:=beq_iff_eq.2 kT;exact yj
theorem Zcq (m:Mach) (av:Value) (w:World) (ho:m.op≠2∧m.op≠30∧m.op≠31∧m.op≠28):Calls Tryz.prog 67 #[mv m av] w (WhoQ 158 w):=by
 unfold mv;have n2:=zN m.op 2;have n30:=zN m.op 30;have n31:=zN m.op 31;have n28:=zN m.op 28;exact yj
theorem Kt {m : Mach} {k sl:Int} (h:Yv m k sl=0):shapeB m=true∧YC k (regsOf m)=false∧(Y2 m=true→0≤m.imm∧m.imm<sl):=by
 unfold Yv at h;by_cases c1:shapeB m=false
 ·rw[if_pos c1]at h;omega
 rw[if_neg c1]at h;by_cases c2:YC k (regsOf m)=true
 ·rw[if_pos c2]at h;omega
 rw[if_neg c2]at h;refine⟨by simpa using c1,by simpa using c2,fun hs=>?_⟩;by_cases c3:(Y2 m&&(decide (m.imm<0)||decide (sl≤m.imm)))=true
 ·rw[if_pos c3]at h;omega
 ·rw[hs]at c3;simp at c3;omega
theorem WQ {k : Int} {l : List Int} (h:YC k l=false) {r : Int} (hr:r∈l):0≤r∧r<k:=by
 unfold YC at h;rw[List.any_eq_false]at h;have:=h r hr;simp at this;omega
theorem ZdK {m : Mach} {k sl:Int} (h:Yv m k sl=0) (ho:m.op=2):(0≤m.a∧m.a<k)∧(0≤m.b∧m.b<k):=by
 have h2:=(Kt h).2.1;unfold regsOf at h2;rw[if_neg kT]at h2;have e:takes m=[m.a,m.b]:=by unfold takes;rw[if_pos ho]
 rw[e]at h2;exact⟨WQ h2 kU,WQ h2 kU⟩
theorem ZcS {m : Mach} {k sl:Int} (h:Yv m k sl=0) (ho:m.op=30):(0≤m.d∧m.d<k)∧(0≤m.imm∧m.imm<sl):=by
 obtain⟨_,h2,h3⟩:=Kt h;refine⟨?_,h3 (by unfold Y2;rw[ho];rfl)⟩;unfold regsOf at h2;rw[if_pos (.inl ho)]at h2;have e:makes7 m=[m.d]:=by unfold makes7;rw[if_neg kT,if_neg kT,if_neg kT]
 rw[e]at h2;exact WQ h2 kU
theorem ZcR {m : Mach} {k sl:Int} (h:Yv m k sl=0) (ho:m.op=31):(0≤m.a∧m.a<k)∧(0≤m.imm∧m.imm<sl):=by
 obtain⟨_,h2,h3⟩:=Kt h;refine⟨?_,h3 (by unfold Y2;rw[ho];rfl)⟩;unfold regsOf at h2;rw[if_pos (.inr ho)]at h2;have e:takes7 m=[m.a]:=by unfold takes7;rw[if_pos kT]
 rw[e]at h2;exact WQ h2 kU
theorem ZcT {m : Mach} {k sl:Int} (h:Yv m k sl=0) (ho:m.op=28):(∀ (j:Nat) (x:Int),m.args[j]? = some x→x=(j:Int))∧m.args.length≤4:=by
 have h1:=(Kt h).1;unfold shapeB at h1;rw[if_pos ho]at h1;simp only[Bool.and_eq_true,decide_eq_true_eq]at h1;refine⟨fun j x hj=>?_,h1.1.2⟩;have:=(Wp m.args 0).1 h1.1.1 j x hj;simpa using this
theorem Zex {e : Yb} {k n:Int} (h:endE e k n=0):XC e=true∧Y5 e k=false∧Ws n e.to=false:=by
 unfold endE at h;by_cases c1:XC e=false
 ·rw[if_pos c1]at h;omega
 rw[if_neg c1]at h;by_cases c2:Y5 e k=true
 ·rw[if_pos c2]at h;omega
 rw[if_neg c2]at h;by_cases c3:Ws n e.to=true
 ·rw[if_pos c3]at h;omega
 exact⟨by simpa using c1,by simpa using c2,by simpa using c3⟩
theorem ZdX {e : Yb} (h:XC e=true):1≤e.op∧e.op≤8:=by
 unfold XC at h;by_cases c1:e.op=1
 ·omega
 rw[if_neg c1]at h;by_cases c2:2≤e.op∧e.op≤5
 ·omega
 rw[if_neg c2]at h;by_cases c3:e.op=6
 ·omega
 rw[if_neg c3]at h;by_cases c4:e.op=7∨e.op=8
 ·omega
 rw[if_neg c4]at h;cases h
theorem Ze7 {e : Yb} {k : Int} (h:Y5 e k=false) (ho:e.op=7):e.a≤0:=by
 by_cases h0:0≤e.a
 ·unfold Y5 at h;have hn:needs e=[e.a]:=by unfold needs;rw[if_pos (.inr (.inr ⟨ho,h0⟩))]
  rw[hn]at h;simp[ho]at h;omega
 ·omega
theorem Zcl {n : Int} {l : List Int} (h:Ws n l=false) {r : Int} (hr:r∈l):1≤r∧r<n:=by
 unfold Ws at h;rw[List.any_eq_false]at h;have:=h r hr;simp at this;omega
def HeapIs (w:World) (q:Nat) (cs:Array Value) (T:TypeId):Prop:=w.heap[q]? = some (.cells cs T (0,0))
theorem HeapIs.cell {w : World} {q : Nat} {cs:Array Value} {T : TypeId} (h:HeapIs w q cs T) (i:Nat):w.cell? ⟨q,i,none⟩=cs[i]?:=by
 simp[World.cell?,show w.heap[q]? = _ from h]
theorem HeapIs.lt {w : World} {q : Nat} {cs:Array Value} {T : TypeId} (h:HeapIs w q cs T):q<w.heap.size:=(Array.getElem?_eq_some_iff.1 h).1
theorem HeapIs.turn {S : Nat→Prop} {w w':World} {q : Nat} {cs:Array Value} {T : TypeId} (h:HeapIs w q cs T) (t:Turn S w w') (hn:¬ S q):HeapIs w' q cs T:=(t.block q h.lt hn).trans h
theorem HeapIs.keep {w w':World} {q : Nat} {cs:Array Value} {T : TypeId} (h:HeapIs w q cs T) (s:Since w w'):HeapIs w' q cs T:=(Below.block s q h.lt).trans h
theorem HeapIs.new (w:World) (cs:Array Value) (T:TypeId):HeapIs (w.alloc (.cells cs T)) w.heap.size cs T:=ZV _ _
theorem MRun.notBz {c : Cfg} {w : World} {s : St} {cv:Value} {e v st:Int} (h:MRun c w s cv e v st) {q : Nat} {cs:Array Value} {T : TypeId} (hb:HeapIs w q cs T) (hq:c.base≤q) (hT:T≠86):¬ Bz c cv q:=by
 rintro ((h1|h1|h1)|h1)
 ·have:=h.lt;omega
 ·have:=(h.sown q h1).2.1;omega
 ·have:=(h.mown q h1).2.1;omega
 ·obtain⟨evs,h2,_⟩:=h.calls;obtain⟨cur,h3⟩:=XZ h2 h1;rw[show w.heap[q]? = _ from hb]at h3
  simp only[Option.some.injEq,Obj.cells.injEq]at h3;exact hT h3.2.1
theorem Zaf {R : List Int} {i : Nat} (h:i<R.length):getR R (i:Int)=R.getD i 0:=ZaD h
theorem QT {R : List Int} {i : Nat} (h:i<R.length) (v:Int):setR R (i:Int) v=R.set i v:=by unfold setR;rw[if_pos kT];simp
theorem ZdZ (c:Cfg) (s:St) (cv:Value) (st:Int) (m:Mach) (av:Value) (w:World) {k sl:Int} (h:MRun c w s cv 0 0 st) (ho:m.op=2) (hl:Yv m k sl=0) (hk:k≤16) :
  Calls Tryz.prog 165 #[.agg #[],mv m av,MPtr c] w (DoQ c w cv st (stepM m c.ans s)):=by
 obtain⟨⟨ha,hf⟩,hb,he⟩:=ZdK hl ho;obtain⟨op,d,e,a,b,cc,imm,args⟩:=m;dsimp only at ho ha hf hb he;obtain⟨a,rfl⟩:=Int.eq_ofNat_of_zero_le ha;obtain⟨b,rfl⟩:=Int.eq_ofNat_of_zero_le hb;have hd:a<s.regs.length:=by rw[h.len];omega
 have hc:b<s.regs.length:=by rw[h.len];omega
 have e1:stepM ⟨op,d,e,a,b,cc,imm,args⟩ c.ans s=(none,{ s with regs:=(s.regs.set a (s.regs.getD b 0)).set b (s.regs.getD a 0) }):=by
  unfold stepM doM;dsimp only;rw[if_neg kT,if_neg kT,if_neg kT,if_neg kT,if_pos ho];dsimp only;rw[Zaf hd,Zaf hc,QT hd,QT (by rw[List.length_set];exact hc)]
 rw[e1];exact Zcu c s cv st op d e a b cc imm args av w h kT kT
theorem Ze9 (c:Cfg) (s:St) (cv:Value) (st:Int) (m:Mach) (av:Value) (w:World) {k sl:Int} (h:MRun c w s cv 0 0 st) (ho:m.op=30) (hl:Yv m k sl=0) (hk:k≤16) (hs:s.slots.length=sl.toNat) :
  Calls Tryz.prog 166 #[.agg #[],mv m av,MPtr c] w (DoQ c w cv st (stepM m c.ans s)):=by
 obtain⟨⟨ha,hd⟩,hb,hc⟩:=ZcS hl ho;obtain⟨op,d,e,a,b,cc,imm,args⟩:=m;dsimp only at ho ha hd hb hc;subst ho;obtain⟨d,rfl⟩:=Int.eq_ofNat_of_zero_le ha;obtain⟨i,rfl⟩:=Int.eq_ofNat_of_zero_le hb;have e1:stepM ⟨30,d,e,a,b,cc,i,args⟩ c.ans s=(none,{ s with regs:=s.regs.set d (s.slots.getD i 0) }):=by
  unfold stepM;dsimp only;rw[if_pos rfl];rw[Int.toNat_natCast,Int.toNat_natCast]
 rw[e1];exact Zcw c s cv st e a b cc d i args av w h kT kT
theorem Ze8 (c:Cfg) (s:St) (cv:Value) (st:Int) (m:Mach) (av:Value) (w:World) {k sl:Int} (h:MRun c w s cv 0 0 st) (ho:m.op=31) (hl:Yv m k sl=0) (hk:k≤16) (hs:s.slots.length=sl.toNat) :
  Calls Tryz.prog 166 #[.agg #[],mv m av,MPtr c] w (DoQ c w cv st (stepM m c.ans s)):=by
 obtain⟨⟨ha,hd⟩,hb,hc⟩:=ZcR hl ho;obtain⟨op,d,e,a,b,cc,imm,args⟩:=m;dsimp only at ho ha hd hb hc;subst ho;obtain⟨a,rfl⟩:=Int.eq_ofNat_of_zero_le ha;obtain⟨i,rfl⟩:=Int.eq_ofNat_of_zero_le hb;have e1:stepM ⟨31,d,e,a,b,cc,i,args⟩ c.ans s=(none,{ s with slots:=s.slots.set i (s.regs.getD a 0) }):=by
  unfold stepM;dsimp only;rw[if_neg kS,if_pos rfl];rw[Int.toNat_natCast,Int.toNat_natCast]
 rw[e1];exact Zcv c s cv st d e b cc a i args av w h kT kT
theorem Zd1 (c:Cfg) (s:St) (cv:Value) (st:Int) (m:Mach) (av:Value) (w:World) {k sl:Int} (h:MRun c w s cv 0 0 st) (ha:(s.calls.length:Int)<st) (ho:m.op=28) (hl:Yv m k sl=0) (hi:Zi c.w0 av m.args) (hf:Yw m) :
  Calls Tryz.prog 167 #[.agg #[],mv m av,MPtr c] w (DoQ c w cv st (stepM m c.ans s)):=by
 obtain⟨h1,h2⟩:=ZcT hl ho;obtain⟨op,d,e,a,b,cc,imm,args⟩:=m;dsimp only at ho h1 h2 hi;subst ho;have e1:stepM ⟨28,d,e,a,b,cc,imm,args⟩ c.ans s=(none,Kw s c.ans imm args):=by
  unfold stepM Kw;dsimp only;rw[if_neg kS,if_neg kS,if_pos rfl]
 rw[e1];exact Zc8 c s cv st d e a b cc imm args av w h ha hi h1 h2 ⟨hf.1,hf.2.1⟩
theorem Zc3 (c:Cfg) (s:St) (cv:Value) (st:Int) (m:Mach) (av:Value) (w:World) (h:MRun c w s cv 0 0 st) (ho:m.op≠2∧m.op≠30∧m.op≠31∧m.op≠28) (hi:Zi c.w0 av m.args) (hf:Yw m) (ha:∀ q,av.ownBlock=some q→q<c.w0.heap.size) :
  Calls Tryz.prog 168 #[.agg #[],mv m av,MPtr c] w (DoQ c w cv st (stepM m c.ans s)):=by
 have e1:stepM m c.ans s=((doM m s.regs s.mem).1,{ s with regs:=(doM m s.regs s.mem).2.1,mem:=(doM m s.regs s.mem).2.2 }):=by
  unfold stepM;rw[if_neg ho.2.1,if_neg ho.2.2.1,if_neg ho.2.2.2]
 rw[e1];exact ZbH c s cv st m av w h hi hf ha
end Go.Proofs.YtimpddecdodddaaGreat
