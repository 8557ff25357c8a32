import Derived.Test.YtimpddecdodddaaGreatSt10
namespace Go.Proofs.YtimpddecdodddaaGreat
open Go.Proofs.Tryz Go.RowKit Go.Lib
set_option linter.unusedVariables false
set_option maxHeartbeats 2000000
set_option maxRecDepth 100000
theorem zI {P:Prop} (h:P:=by
 go_wp2_with fail
 go_quiet (fail)
 go_wp2_with fail
 go_quiet (fail)
 go_wp2
 go_ret
 exact⟨rfl,(HM.out.keep (Since.drewN (Since.refl w) _)).next,(Zb.since (Since.drewN (Since.refl w) _)).trans ((Zb.refl (fun q=>q=mb) _).setCell (p:=⟨mb,1,none⟩) rfl _),by rw[YT];rfl⟩):P:=h
theorem zY {P:Prop} (h:P:=by
 go_wp2_with fail
 go_quiet (fail)
 go_wp2
 go_ret
 exact⟨rfl,(HM.out.keep (Since.drewN (Since.refl w) _)).next,(Zb.since (Since.drewN (Since.refl w) _)).trans ((Zb.refl (fun q=>q=mb) _).setCell (p:=⟨mb,1,none⟩) rfl _),by rw[YT];rfl⟩):P:=h
theorem qu {P:Prop} (h:P:=by
 rintro q (hq|hq|hq|hq)
 ·exact .inl (.inl hq)
 ·exact .inl (.inr (.inl hq))
 ·rcases hd q hq with h2|h2
  ·exact .inl (.inr (.inr (.inl h2)))
  ·exact .inr h2
 ·exact .inl (.inr (.inr (.inr hq)))):P:=h
theorem qy {P:Prop} (h:P:=by exact⟨⟨ha.term.1.1.turn tt fun q hq e=>(ha.term.2.1 q hq).1 (.inl (hT q e)),ha.term.1.2.turn tt fun q hq e=>(ha.term.2.2 q hq).1 (.inl (hT q e))⟩,hc _ ha.term.2.1,hc _ ha.term.2.2⟩):P:=h
theorem qC {P:Prop} (h:P:=by
 rcases h.bks with h1|⟨bb,h1,h2⟩
 ·exact .inl h1
 ·refine .inr ⟨bb,h1,h2.turn tt ?_⟩;rintro (e|e)
  ·exact h.mb_bv (by rw[h1,←e];rfl)
  ·exact Zn h.live h2 (by decide) e):P:=h
theorem yO {P:Prop} (h:P:=by
 rcases h.bks with h1|⟨bb,h1,h2⟩
 ·exact .inl h1
 ·exact .inr ⟨bb,h1,h2.turn t fun e=>h.mb_bv (by rw[h1,←e];rfl)⟩):P:=h
theorem yP {P:Prop} (h:P:=by obtain⟨h3,h4⟩:=ha.phi y hy;exact⟨RowIn.turn h3 tt (fun q hq e=>(h4 q hq).1 (.inl (hT q e))) fun _ _ h=>h,hc _ h4⟩):P:=h
theorem jc {P:Prop} (h:P:=by
 rintro q (hq|hq)
 ·rcases h q hq with h1|h1
  ·exact .inl (.inl h1)
  ·exact .inr h1
 ·exact .inl (.inr hq)):P:=h
theorem jh {P:Prop} (h:P:=by
 rintro q hq (e|e)
 ·exact h.mb_phis hc (e ▸ hq)
 ·exact Xr (h.each c hc).phis h.live (by decide) q hq e):P:=h
theorem jl {P:Prop} (h:P:=by
 rintro q hq (e|e)
 ·exact h.mb_ins hc (e ▸ hq)
 ·exact Xr (h.each c hc).ins h.live (by decide) q hq e):P:=h
theorem jn {P:Prop} (h:P:=by obtain⟨h3,h4⟩:=ha.arg y hy;exact⟨h3.turn tt fun q hq e=>(h4 q hq).1 (.inl (hT q e)),hc _ h4⟩):P:=h
theorem jw {P:Prop} (h:P:=by
 go_wp2
 go_ret2
 exact⟨_,⟨v,true,m.at_+1+1,rfl,fun _=>hv,by omega,rfl⟩,H2.out,MV2.out⟩):P:=h
theorem jF {P:Prop} (h:P:=by
 rcases hS q e with h1|h1
 ·exact (h.aside q hq).2 h1
 ·have:=(h.aside q hq).1;omega):P:=h
theorem jX {P:Prop} (h:P:=by
 rcases k.new q hq with h3|h3
 ·exact h.new q h3
 ·exact .inr (by omega)):P:=h
theorem kD {P:Prop} (h:P:=by
 rcases hs with hs|hs
 ·exact hs
 ·omega):P:=h
theorem kI {P:Prop} (h:P:=by
 go_wp2
 go_ret
 exact⟨rfl,HQ.out⟩):P:=h
def MkAt (w:World) (mb:Nat) (sv:Value) (at_:Nat) (rest:List Value):Prop:=HeapIs w mb (sv::.int .i64 at_::rest).toArray 111
theorem MkAt.keep {w w':World} {mb:Nat} {sv:Value} {at_:Nat} {rest:List Value} (h:MkAt w mb sv at_ rest) (s:Since w w'):MkAt w' mb sv at_ rest:=HeapIs.keep h s
def takeF (l:List Int) (at_:Nat) (n:Int):Int:=((l.getD at_ 0).tmod n+n) % n
theorem XN (l:List Int) (at_:Nat) {n : Int} (hn:0<n):0≤takeF l at_ n∧takeF l at_ n<n:=by
 unfold takeF;have h1:=Int.tmod_lt_of_pos (l.getD at_ 0) hn;have h2 : -n<(l.getD at_ 0).tmod n:=by
  have:=Int.lt_tmod_of_pos (l.getD at_ 0) hn;exact this
 exact⟨Int.emod_nonneg _ zaK,Int.emod_lt_of_pos _ hn⟩
def Zed (w:World) (mb:Nat) (sv:Value) (at_ k:Nat) (rest:List Value) (r:Value) (e:Ending) (w':World):Prop:=e=.returned r∧MkAt w' mb sv (at_+k) rest∧Zb (fun q=>q=mb) w w'∧w'.heap.size=w.heap.size
theorem MkAt.next {w : World} {mb:Nat} {sv:Value} {at_:Nat} {rest:List Value} (h:MkAt w mb sv at_ rest):MkAt (w.setCell ⟨mb,1,none⟩ (.int .i64 (at_+1))) mb sv (at_+1) rest:=by
 have h1:=HeapIs.set (show HeapIs w mb _ _ from h) 1 (.int .i64 (at_+1));simpa [MkAt]using h1
theorem YT (w:World) (a:Addr) (v:Value):(w.setCell a v).heap.size=w.heap.size:=by simp[World.setCell]
theorem Ke (sv:Value) (l:List Int) (w:World) (mb at_:Nat) (rest:List Value) (n:Int) (hm:MkAt w mb sv at_ rest) (hs:Zd w sv l) (hi:at_≤1000000) (hn:1≤n∧n≤1048576):Calls prog 55 #[.pointer (some ⟨mb,0,none⟩),.int .i64 n] w (Zed w mb sv at_ 1 rest (.int .i64 (takeF l at_ n))):=by
 obtain⟨sa,sc,rfl⟩:=Zc hs;have he:=hs.len;unfold maxLen at he;obtain⟨x,hx⟩:∃ x,l.getD at_ 0=x:=⟨_,rfl⟩
 unfold takeF;rw[hx];have hh:=Int.tmod_lt_of_pos x (show 0<n by omega);have hg : -n<x.tmod n:=Int.lt_tmod_of_pos x zaK;have HX:=hid hx;have HM:=hid hm;have HS:=hid hs;have c0:w.cell? ⟨mb,0,none⟩=some (.slice sa l.length sc):=hm.cell 0;have c1:w.cell? ⟨mb,1,none⟩=some (.int .i64 at_):=hm.cell 1;have hl:=hm.lt;have hf:=hm.frozen;clear hx hm hs;by_cases hb:at_<l.length
 ·obtain⟨_,hd⟩:=Zr HS.out;obtain⟨B,off,rfl,hB,ha⟩:=hd (by intro e;rw[e]at hb;simp at hb);have hc:l[at_]? = some x:=by rw[←HX.out,List.getD_eq_getElem?_getD,List.getElem?_eq_getElem hb];rfl
  have c2:=ha at_ x hc;clear ha hd hc;go_enter func55,ntmps55
  exact zI
 ·obtain rfl:x=0:=by rw[←HX.out,List.getD_eq_getElem?_getD,List.getElem?_eq_none zaK];rfl
  rw[show ((0:Int).tmod n+n) % n=0 from by simp];go_enter func55,ntmps55
  exact zY
def wordF (l:List Int) (at_:Nat):Int:=
 if takeF l (at_+1) 8=0 then wrap32 (takeF l at_ 1048576*4099)
 else if takeF l (at_+1) 8=1 then -takeF l at_ 1048576
 else if takeF l (at_+1) 8=2 then -2147483648
 else if takeF l (at_+1) 8=3 then takeF l at_ 1048576 % 70000
 else takeF l at_ 1048576 % 20-4
theorem Zcq (x:Int):In32 (wrap32 x):=by
 unfold wrap32 In32;omega
theorem Zdo (l:List Int) (at_:Nat):In32 (wordF l at_):=by
 have b1:=XN l at_ (n:=1048576) zaJ;unfold wordF;split
 ·exact Zcq _
 split
 ·unfold In32;omega
 split
 ·unfold In32;omega
 split
 iterate 2
  ·unfold In32;omega
theorem Zdn (sv:Value) (l:List Int) (w:World) (mb at_:Nat) (rest:List Value) (hm:MkAt w mb sv at_ rest) (hs:∀ w',Zb (fun q=>q=mb) w w'→Zd w' sv l) (hl:at_≤100000):Calls prog 54 #[.pointer (some ⟨mb,0,none⟩)] w (Zed w mb sv at_ 2 rest (.int .i32 (wordF l at_))):=by
 have hb:=Ke sv l w mb at_ rest 1048576 hm (hs w (Zb.refl _ _)) zaK zaJ;have ha:=fun w1 (h:MkAt w1 mb sv (at_+1) rest) (h2:Zd w1 sv l)=>Ke sv l w1 mb (at_+1) rest 8 h h2 zaK zaJ
 have b1:=XN l at_ (n:=1048576) zaJ;have b2:=XN l (at_+1) (n:=8) zaJ;obtain⟨r,hr⟩:∃ r,wordF l at_=r:=⟨_,rfl⟩
 rw[hr];unfold wordF at hr;generalize takeF l at_ 1048576=x at *;generalize takeF l (at_+1) 8=y at *;have HR:=hid hr;clear hr;have hi:=hid hb;have hh:=hid ha;have HS:=hid hs;clear hb ha hm hs;have hy:y=0∨y=1∨y=2∨y=3∨(4≤y∧y<8):=zaK
 go_enter func54,ntmps54
 go_wp2_with fail
 refine hi.out.mono ?_;rintro e w1 ⟨rfl,he,t1,z1⟩;have hc:Zd w1 sv l:=HS.out w1 t1;have hk:=hid he;have hj:=hid hc;have hf:=hid t1;have hg:=hid z1;clear he hc t1 z1;go_wp2_with fail
 refine (hh.out w1 hk.out hj.out).mono ?_;rintro e w2 ⟨rfl,hd,t2,z2⟩;have HQ:=zH (MkAt w2 mb sv (at_+2) rest∧Zb (fun q=>q=mb) w w2∧w2.heap.size=w.heap.size) ⟨hd,hf.out.trans t2,z2.trans hg.out⟩;clear hd t2 z2;rcases hy with rfl|rfl|rfl|rfl|hy
 ·obtain rfl:wrap32 (x*4099)=r:=HR.out;exact kI
 ·obtain rfl : -x=r:=HR.out;exact kI
 ·obtain rfl:(-2147483648:Int)=r:=HR.out;exact kI
 ·obtain rfl:x % 70000=r:=HR.out;exact kI
 ·have y0:=zN y 0;have y1:=zN y 1;have y2:=zN y 2;have y3:=zN y 3;have hr:=HR.out;rw[if_neg zaK,if_neg zaK,if_neg zaK,if_neg zaK]at hr;subst hr;exact kI
structure Zm where
 at_:Nat
 params:Int
 bks:List Zt
 next:Int
 live:List Int
 livev:Value
def Zm.total (m:Zm):Nat:=(m.bks.map fun b=>b.ins.length).sum
def Own (mb:Nat) (bv:Value) (m:Zm) (q:Nat):Prop:=q=mb∨bv.ownBlock=some q∨m.livev.ownBlock=some q∨∃ b∈m.bks,b.inv.ownBlock=some q∨b.phv.ownBlock=some q
def ZE (C:Nat→Prop) (mb:Nat) (bv:Value) (m:Zm) (q:Nat):Prop:=Own mb bv m q∨C q
def Stays (S:Nat→Prop) (w:World) (v:Value):Prop:=∀ q,v.ownBlock=some q→¬ S q∧q<w.heap.size
theorem Stays.mono {S S':Nat→Prop} {w w':World} {v : Value} (h:Stays S w v) (hs:∀ q,S' q→S q∨w.heap.size≤q) (hz:w.heap.size≤w'.heap.size):Stays S' w' v:=fun q hq=>by
 obtain⟨h1,h2⟩:=h q hq
 refine⟨fun h3=>?_,zaK⟩
 rcases hs q h3 with h4|h4
 ·exact h1 h4
 ·omega
theorem Stays.nil (S:Nat→Prop) (w:World):Stays S w (.slice none 0 0):=fun q hq=>by cases hq
def Ye (N:Int) (x:YF):Prop:=
 In32 x.imm∧(∀ a∈x.args,0≤a∧a<N)∧(0≤x.dst∧x.dst<N)∧(0≤x.two∧x.two<N) ∧
 ((x.op=1∧x.args.length=0)∨((2≤x.op∧x.op≤14)∧x.args.length=2)∨(x.op=15∧x.args.length=1)∨(x.op=16∧x.args.length=2)∨(x.op=17∧x.args.length≤4)∨(x.op=18∧x.args.length=2∧x.dst≠x.two))
theorem Ye.mono {N N':Int} {x : YF} (h:Ye N x) (hN:N≤N'):Ye N' x:=
 ⟨h.1,fun a ha=>by have:=h.2.1 a ha;omega,by have:=h.2.2.1;omega,by have:=h.2.2.2.1;omega,h.2.2.2.2⟩
structure Zdm (m:Zm):Prop where
 params:0≤m.params∧m.params≤4∧m.params≤m.next
 live:∀ v∈m.live,0≤v∧v<m.next
 ins:∀ b∈m.bks,∀ x∈b.ins,Ye m.next x
def Sm (k:Nat) (m:Zm):Prop:=m.at_≤1000*k∧m.next≤1000*k∧m.total≤1000*k∧m.live.length≤2000*k
structure Vi (S:Nat→Prop) (w:World) (b:Zt):Prop where
 phis:OwnRow fpcells 2 138 0 w b.phv b.phis
 ins:OwnRow Z6 5 180 0 w b.inv b.ins
 phi:∀ x∈b.phis,XG w x.inv x.ins∧Stays S w x.inv
 arg:∀ x∈b.ins,Zd w x.av x.args∧Stays S w x.av
 term:Ww w b.term∧Stays S w b.term.argsv∧Stays S w b.term.tov
structure MkOk (C:Nat→Prop) (mb:Nat) (bv sv:Value) (l:List Int) (m:Zm) (w:World):Prop where
 made:MkAt w mb sv m.at_ [.int .i64 m.params,bv,.int .i64 m.next,m.livev]
 src:Zd w sv l∧Stays (ZE C mb bv m) w sv
 live:w.ownsRow 0 3 1 m.livev m.live.length (m.live.map (Value.int .i64))
 bks:(bv=.slice none 0 0∧m.bks=[])∨∃ bb,bv=.slice (some ⟨bb,0,none⟩) m.bks.length m.bks.length∧HeapIs w bb (m.bks.flatMap fbcells).toArray 177
 each:∀ b∈m.bks,Vi (ZE C mb bv m) w b
 apart:∀ (i j:Nat) (b c:Zt),m.bks[i]? = some b→m.bks[j]? = some c→i≠j→(∀ q,b.inv.ownBlock=some q→c.inv.ownBlock≠some q)∧∀ q,b.phv.ownBlock=some q→c.phv.ownBlock≠some q
 few:m.bks.length≤512
 good:Zdm m
 aside:∀ q,C q→q<w.heap.size∧¬ Own mb bv m q
structure Mv (mb:Nat) (bv:Value) (w:World) (m:Zm) (w':World) (m':Zm) (a n i:Nat):Prop where
 turn:Zb (Own mb bv m) w w'
 new:∀ q,Own mb bv m' q→Own mb bv m q∨w.heap.size≤q
 at_:m'.at_≤m.at_+a
 next:m.next≤m'.next∧m'.next≤m.next+n
 total:m'.total≤m.total+i
 live:m'.live.length≤m.live.length+2*i
 same:m'.params=m.params∧(m'.bks.map fun b=>(b.phis,b.phv,b.term))=m.bks.map fun b=>(b.phis,b.phv,b.term)
section
variable {C : Nat→Prop} {mb:Nat} {bv sv:Value} {l : List Int} {m m' m'':Zm} {w w' w'':World} {a n i a' n' i':Nat}
theorem Mv.refl (mb:Nat) (bv:Value) (w:World) (m:Zm):Mv mb bv w m w m 0 0 0:=⟨Zb.refl _ _,fun _ h=>.inl h,zaK,zaK,zaK,zaK,rfl,rfl⟩
theorem Mv.trans (h:Mv mb bv w m w' m' a n i) (k:Mv mb bv w' m' w'' m'' a' n' i'):Mv mb bv w m w'' m'' (a+a') (n+n') (i+i'):=by
 have hz:=h.turn.size;have h1:Zb (fun q=>Own mb bv m q∨w.heap.size≤q) w w':=h.turn.mono fun _ _ h=>.inl h
 have h2:Zb (fun q=>Own mb bv m q∨w.heap.size≤q) w' w'':=k.turn.mono fun q _ hq=>h.new q hq
 refine⟨(h1.trans h2).mono fun q hq hs=>?_,fun q hq=>?_,by have:=h.at_;have:=k.at_;omega,by have:=h.next;have:=k.next;omega,by have:=h.total;have:=k.total;omega,by have:=h.live;have:=k.live;omega,k.same.1.trans h.same.1,k.same.2.trans h.same.2⟩
 ·exact kD
 ·exact jX
theorem Mv.len (h:Mv mb bv w m w' m' a n i):m'.bks.length=m.bks.length:=by
 have:=congrArg List.length h.same.2;simpa using this
theorem Mv.more (h:Mv mb bv w m w' m' a n i) (ha:a≤a':=by decide) (hn:n≤n':=by decide) (hi:i≤i':=by decide):Mv mb bv w m w' m' a' n' i':=
 ⟨h.turn,h.new,by have:=h.at_;omega,by have:=h.next;omega,by have:=h.total;omega,by have:=h.live;omega,h.same⟩
theorem Mv.since (s:Since w w') (h:Mv mb bv w' m w'' m'' a n i):Mv mb bv w m w'' m'' a n i:=
 ⟨(Zb.since s).trans h.turn,fun q hq=>by rcases h.new q hq with h1 | h1;exact .inl h1;exact .inr (Nat.le_trans s.size h1),h.at_,h.next,h.total,h.live,h.same⟩
theorem Ys {mb:Nat} {bv:Value} {m m':Zm} {w : World} (h:∀ q,Own mb bv m' q→Own mb bv m q∨w.heap.size≤q):∀ q,ZE C mb bv m' q→ZE C mb bv m q∨w.heap.size≤q:=by
 exact jc
theorem Mv.stays {v : Value} (h:Mv mb bv w m w' m' a n i) (hv:Stays (ZE C mb bv m) w v):Stays (ZE C mb bv m') w' v:=hv.mono (Ys h.new) h.turn.size
theorem Mv.nums {k : IntKind} {v : Value} {xs:List Int} (h:Mv mb bv w m w' m' a n i) (hx:Zy k w v xs) (hv:Stays (ZE C mb bv m) w v):Zy k w' v xs:=hx.turn h.turn fun q hq e=>(hv q hq).1 (.inl e)
theorem Mv.heap {q : Nat} {cs:Array Value} {T : TypeId} (h:Mv mb bv w m w' m' a n i) (hb:HeapIs w q cs T) (hq:¬ Own mb bv m q):HeapIs w' q cs T:=hb.turn h.turn hq
theorem Yq {w : World} {a b:Nat} {cs ds:Array Value} {T U:TypeId} (h1:HeapIs w a cs T) (h2:HeapIs w b ds U) (hT:T≠U):a≠b:=by
 rintro rfl;unfold HeapIs at h1 h2;rw[h1]at h2;simp only[Option.some.injEq,Obj.cells.injEq]at h2;exact hT h2.2.1
theorem ZR {base:Nat} {e : TypeId} {size n:Nat} {v : Value} {xs:List Value} (h:w.ownsRow base e size v n xs) {q : Nat} (hq:v.ownBlock=some q):q<w.heap.size:=(World.ownsRow.lt h q hq).2
theorem MkOk.ltOwn (h:MkOk C mb bv sv l m w) {q : Nat} (hq:Own mb bv m q):q<w.heap.size:=by
 rcases hq with rfl|hq|hq|⟨b,hb,hq|hq⟩
 ·exact HeapIs.lt h.made
 ·rcases h.bks with ⟨h1,_⟩|⟨bb,h1,h2⟩
  ·rw[h1]at hq;cases hq
  ·rw[h1]at hq;cases hq;exact h2.lt
 ·exact ZR h.live hq
 ·exact ZR (h.each b hb).ins hq
 ·exact ZR (h.each b hb).phis hq
theorem MkOk.ltOwnC (h:MkOk C mb bv sv l m w) {q : Nat} (hq:ZE C mb bv m q):q<w.heap.size:=by
 rcases hq with hq|hq
 ·exact h.ltOwn hq
 ·exact (h.aside q hq).1
theorem MkOk.newStays (h:MkOk C mb bv sv l m w) (o:Obj) (n c:Nat):Stays (ZE C mb bv m) (w.alloc o) (.slice (some ⟨w.heap.size,0,none⟩) n c):=fun q hq=>by
 cases hq
 exact⟨fun h1=>absurd (h.ltOwnC h1) (Nat.lt_irrefl _),by simp⟩
theorem Stays.keep {S : Nat→Prop} {v : Value} (h:Stays S w v) (s:Since w w'):Stays S w' v:=h.mono (fun _ h=>.inl h) s.size
theorem Vi.keep {S : Nat→Prop} {b : Zt} (h:Vi S w b) (s:Since w w'):Vi S w' b:=
 ⟨OwnRow.keep h.phis s,OwnRow.keep h.ins s,fun x hx=>⟨(h.phi x hx).1.keep s,(h.phi x hx).2.keep s⟩,fun x hx=>⟨(h.arg x hx).1.keep s,(h.arg x hx).2.keep s⟩,h.term.1.keep s,h.term.2.1.keep s,h.term.2.2.keep s⟩
theorem MkOk.keep (h:MkOk C mb bv sv l m w) (s:Since w w'):MkOk C mb bv sv l m w':=by
 refine⟨h.made.keep s,⟨h.src.1.keep s,h.src.2.keep s⟩,Zv h.live s,?_,fun b hb=>(h.each b hb).keep s,h.apart,h.few,h.good,fun q hq=>⟨Nat.lt_of_lt_of_le (h.aside q hq).1 s.size,(h.aside q hq).2⟩⟩
 rcases h.bks with h1|⟨bb,h1,h2⟩
 ·exact .inl h1
 ·exact .inr ⟨bb,h1,h2.keep s⟩
theorem Vi.turn {S S' T:Nat→Prop} {b : Zt} (h:Vi S w b) (t:Zb T w w') (hT:∀ q,T q→S q) (hS:∀ q,S' q→S q∨w.heap.size≤q) (h1:∀ q,b.phv.ownBlock=some q→¬ T q) (h2:∀ q,b.inv.ownBlock=some q→¬ T q):Vi S' w' b:=by
 have hz:=t.size;refine⟨Zg h.phis t h1,Zg h.ins t h2,fun x hx=>?_,fun x hx=>?_,⟨h.term.1.1.turn t fun q hq e=>(h.term.2.1 q hq).1 (hT q e),h.term.1.2.turn t fun q hq e=>(h.term.2.2 q hq).1 (hT q e)⟩,h.term.2.1.mono hS hz,h.term.2.2.mono hS hz⟩
 ·obtain⟨h3,h4⟩:=h.phi x hx;exact⟨RowIn.turn h3 t (fun q hq e=>(h4 q hq).1 (hT q e)) fun _ _ h=>h,h4.mono hS hz⟩
 ·obtain⟨h3,h4⟩:=h.arg x hx;exact⟨h3.turn t fun q hq e=>(h4 q hq).1 (hT q e),h4.mono hS hz⟩
theorem MkOk.mb_bv (h:MkOk C mb bv sv l m w):¬ bv.ownBlock=some mb:=by
 rcases h.bks with ⟨h1,_⟩|⟨bb,h1,h2⟩
 ·rw[h1];intro h;cases h
 ·rw[h1];intro h3;have h3:bb=mb:=Option.some.inj h3;exact Yq (show HeapIs w mb _ _ from h.made) h2 zaJ h3.symm
theorem MkOk.mb_live (h:MkOk C mb bv sv l m w):¬ m.livev.ownBlock=some mb:=Zn h.live (show HeapIs w mb _ _ from h.made) zaJ
theorem MkOk.mb_ins (h:MkOk C mb bv sv l m w) {b : Zt} (hb:b∈m.bks):¬ b.inv.ownBlock=some mb:=Zn (show w.ownsRow _ _ _ _ _ _ from (h.each b hb).ins) (show HeapIs w mb _ _ from h.made) zaJ
theorem MkOk.mb_phis (h:MkOk C mb bv sv l m w) {b : Zt} (hb:b∈m.bks):¬ b.phv.ownBlock=some mb:=Zn (show w.ownsRow _ _ _ _ _ _ from (h.each b hb).phis) (show HeapIs w mb _ _ from h.made) zaJ
theorem MkOk.box {at':Nat} {next':Int} (h:MkOk C mb bv sv l m w) (hm:MkAt w' mb sv at' [.int .i64 m.params,bv,.int .i64 next',m.livev]) (t:Zb (fun q=>q=mb) w w') (hn:m.next≤next'):MkOk C mb bv sv l { m with at_:=at',next:=next' } w':=by
 have hz:=t.size;have hS:∀ q,Own mb bv { m with at_:=at',next:=next' } q→Own mb bv m q∨w.heap.size≤q:=fun q hq=>.inl hq
 refine⟨hm,⟨h.src.1.turn t fun q hq e=>(h.src.2 q hq).1 (.inl (.inl e)),h.src.2.mono (Ys hS) hz⟩,Zg h.live t fun q hq e=>h.mb_live (e ▸ hq),?_,fun b hb=>(h.each b hb).turn t (fun q hq=>.inl (.inl hq)) (Ys hS) (fun q hq e=>h.mb_phis hb (e ▸ hq)) (fun q hq e=>h.mb_ins hb (e ▸ hq)),h.apart,h.few,?_,fun q hq=>⟨Nat.lt_of_lt_of_le (h.aside q hq).1 hz,(h.aside q hq).2⟩⟩
 ·exact yO
 ·exact⟨by have:=h.good.params;dsimp only;omega,fun v hv=>by have:=h.good.live v hv;dsimp only;omega,fun b hb x hx=>(h.good.ins b hb x hx).mono hn⟩
theorem Mv.box {at':Nat} {next':Int} (t:Zb (fun q=>q=mb) w w') (ha:at'≤m.at_+a) (hn:m.next≤next'∧next'≤m.next+n):Mv mb bv w m w' { m with at_:=at',next:=next' } a n 0:=
 ⟨t.mono fun q _ h=>.inl h,fun q hq=>.inl hq,ha,hn,Nat.le_refl _,by show m.live.length≤_;omega,rfl,rfl⟩
end
def MkQ (C:Nat→Prop) (mb:Nat) (bv sv:Value) (l:List Int) (w:World) (m:Zm) (a n i:Nat) (R:Zm→Ending→Prop) (e:Ending) (w':World):Prop:=
 ∃ m',R m' e∧MkOk C mb bv sv l m' w'∧Mv mb bv w m w' m' a n i
section
variable {C : Nat→Prop} {mb:Nat} {bv sv:Value} {l : List Int} {m : Zm} {w : World}
theorem ZF (h:MkOk C mb bv sv l m w) (n:Int) (hn:1≤n∧n≤1048576) (hs:m.at_≤100000) :
  Calls prog 55 #[.pointer (some ⟨mb,0,none⟩),.int .i64 n] w (MkQ C mb bv sv l w m 1 0 0 fun m' e=>∃ x:Int,e=.returned (.int .i64 x)∧(0≤x∧x<n)∧m'={ m with at_:=m.at_+1 }):=by
 refine (Ke sv l w mb m.at_ _ n h.made h.src.1 zaK hn).mono ?_;rintro e w' ⟨rfl,hm,t,hz⟩;exact⟨_,⟨_,rfl,XN _ _ zaK,rfl⟩,h.box hm t (Int.le_refl _),Mv.box t (Nat.le_refl _) zaK⟩
theorem Wh (h:MkOk C mb bv sv l m w) (hs:m.at_≤90000) :
  Calls prog 54 #[.pointer (some ⟨mb,0,none⟩)] w (MkQ C mb bv sv l w m 2 0 0 fun m' e=>∃ x:Int,e=.returned (.int .i32 x)∧In32 x∧m'={ m with at_:=m.at_+2 }):=by
 refine (Zdn sv l w mb m.at_ _ h.made (fun w' t=>h.src.1.turn t fun q hq e=>(h.src.2 q hq).1 (.inl (.inl e))) zaK).mono ?_
 rintro e w' ⟨rfl,hm,t,hz⟩;exact⟨_,⟨_,rfl,Zdo _ _,rfl⟩,h.box hm t (Int.le_refl _),Mv.box t (Nat.le_refl _) zaK⟩
theorem Vo (h:MkOk C mb bv sv l m w) (hs:0≤m.next∧m.next≤100000) :
  Calls prog 108 #[.pointer (some ⟨mb,0,none⟩)] w fun e w'=>e=.returned (.int .i64 m.next)∧MkOk C mb bv sv l { m with next:=m.next+1 } w'∧Mv mb bv w m w' { m with next:=m.next+1 } 0 1 0∧Zb (fun q=>q=mb) w w':=by
 have H:=hid h;have c4:w.cell? ⟨mb,4,none⟩=some (.int .i64 m.next):=HeapIs.cell (show HeapIs w mb _ _ from h.made) 4;have hl:=HeapIs.lt (show HeapIs w mb _ _ from h.made);have hc:=HeapIs.frozen (show HeapIs w mb _ _ from h.made);obtain⟨nx,hb⟩:∃ x,m.next=x:=⟨_,rfl⟩
 rw[hb]at c4 hs;have ha:=hid hb;have hm:MkAt (w.setCell ⟨mb,4,none⟩ (.int .i64 (nx+1))) mb sv m.at_ [.int .i64 m.params,bv,.int .i64 (nx+1),m.livev]:=by
  have h1:=HeapIs.set (show HeapIs w mb _ _ from h.made) 4 (.int .i64 (nx+1));simpa [MkAt]using h1
 have HM:=hid hm;clear h hb hm;go_enter func108,ntmps108
 go_wp2
 go_ret
 refine⟨by rw[ha.out];rfl,?_⟩;rw[ha.out];have t:Zb (fun q=>q=mb) w (w.setCell ⟨mb,4,none⟩ (.int .i64 (nx+1))):=(Zb.refl (fun q=>q=mb) w).setCell (p:=⟨mb,4,none⟩) rfl _;exact⟨H.out.box HM.out t (by rw[ha.out];omega),Mv.box t (Nat.le_refl _) (by rw[ha.out];omega),t⟩
theorem Yt (h:MkOk C mb bv sv l m w) (hs:0≤m.next∧m.next≤100000) :
  Calls prog 108 #[.pointer (some ⟨mb,0,none⟩)] w (MkQ C mb bv sv l w m 0 1 0 fun m' e=>e=.returned (.int .i64 m.next)∧m'={ m with next:=m.next+1 }):=
 (Vo h hs).mono fun e w' ⟨h1,h2,h3,_⟩=>⟨_,⟨h1,rfl⟩,h2,h3⟩
theorem ZdL (h:MkOk C mb bv sv l m w) (hs:Sm 80 m) :
  Calls prog 148 #[.pointer (some ⟨mb,0,none⟩)] w (MkQ C mb bv sv l w m 2 0 0 fun m' e=>∃ (v:Int) (ok:Bool) (a:Nat),e=.returned (.tuple #[.int .i64 v,.bool ok])∧(ok=true→0≤v∧v<m.next)∧a≤m.at_+2∧m'={ m with at_:=a }):=by
 obtain⟨la,lc,hd⟩:=Ze h.live;obtain⟨hp,ho,hm,hg⟩:=hs;obtain⟨n,hn⟩:∃ n,m.live.length=n:=⟨_,rfl⟩
 rw[hn]at hd hg;have H:=hid h;have HN:=hid hn;have hf:=hid hd;have c5:w.cell? ⟨mb,5,none⟩=some (.slice la n lc):=by rw[←hd];exact HeapIs.cell (show HeapIs w mb _ _ from h.made) 5
 have hl:=HeapIs.lt (show HeapIs w mb _ _ from h.made);clear h hn hd;by_cases h0:n=0
 ·subst h0;go_enter func148,ntmps148
  go_wp2
  go_ret2
  exact⟨m,⟨0,false,m.at_,rfl,fun e=>(by cases e),zaK,rfl⟩,H.out,(Mv.refl _ _ _ _).more zaK zaK zaK⟩
 ·have hi:0<n:=zaK
  have hr:((n:Int)==0)=false:=by simp;omega
  clear h0;go_enter func148,ntmps148
  go_wp2_with fail
  refine (ZF H.out n zaK zaK).mono ?_;rintro e w1 ⟨m1,⟨x,rfl,hx,rfl⟩,h1,mv1⟩;have H1:=hid h1;have MV1:=hid mv1;clear h1 mv1;go_wp2_with fail
  refine (ZF H1.out 3 zaK (by dsimp only;omega)).mono ?_;rintro e w2 ⟨m2,⟨y,rfl,hy,rfl⟩,h2,mv2⟩;have MV2:=hid (MV1.out.trans mv2);have H2:=hid h2;have hb:Zy .i64 w2 m.livev m.live:=ZB h2.live;rw[hf.out]at hb;have c5:w2.cell? ⟨mb,5,none⟩=some (.slice la n lc):=by rw[←hf.out];exact HeapIs.cell (show HeapIs w2 mb _ _ from h2.made) 5
  have hl:=HeapIs.lt (show HeapIs w2 mb _ _ from h2.made);obtain⟨hq,ha⟩:=Zr hb;obtain⟨B,off,rfl,hB,ha⟩:=ha (by intro e;have:=HN.out;rw[e]at this;simp at this;omega);have key:∀ k:Nat,k<n→∃ v,w2.cell? ⟨B,off+k,none⟩=some (.int .i64 v)∧0≤v∧v<m.next:=fun k hk=>by
   have hh:k<m.live.length:=by rw[HN.out];exact hk
   have hv:m.live[k]? = some m.live[k]:=List.getElem?_eq_getElem hh;exact⟨_,ha k _ hv,H.out.good.live _ (List.mem_of_getElem? hv)⟩
  have KEY:=hid key;clear ha hb hq h2 mv2 key;by_cases he:y=0
  ·subst he;obtain⟨v,hc,hv⟩:=KEY.out (n-1) zaK;exact jw
  ·have hj:(y==0)=false:=by simpa using he
   obtain⟨v,hc,hv⟩:=KEY.out x.toNat zaK;clear he;exact jw
end
theorem Xn {α:Type} (f:α→List Value) (sz:Nat) (hf:∀ x,(f x).length=sz) (t:Nat) (y:Value) (x x':α) (ht:t<sz) (hx:f x'=(f x).set t y):∀ (l:List α) (i:Nat),l[i]? = some x→(l.flatMap f).set (i*sz+t) y=(l.set i x').flatMap f
 | [],_,h=>by cases h
 | z::r,0,h=>by
  obtain rfl:z=x:=by simpa using h
  rw[List.set_cons_zero,List.flatMap_cons,List.flatMap_cons,Nat.zero_mul,Nat.zero_add,List.set_append_left _ _ (by rw[hf];exact ht),hx]
 | z::r,i+1,h=>by
  have ih:=Xn f sz hf t y x x' ht hx r i (by simpa using h)
  rw[List.set_cons_succ,List.flatMap_cons,List.flatMap_cons,List.set_append_right _ _ (by rw[hf,Nat.add_mul];omega),hf,show (i+1)*sz+t-sz=i*sz+t from by rw[Nat.add_mul];omega,ih]
theorem ZJ {α:Type} {l : List α} {b j:Nat} {k c:α} (h:(l.set b k)[j]? = some c):(j=b∧c=k)∨(j≠b∧l[j]? = some c):=by
 rw[List.getElem?_set]at h;by_cases e:b=j
 ·rw[if_pos e]at h;split at h
  ·exact .inl ⟨e.symm,by simpa using h.symm⟩
  ·cases h
 ·rw[if_neg e]at h;exact .inr ⟨fun h2=>e h2.symm,h⟩
theorem Yk {α:Type} {l : List α} {b : Nat} {k c:α} (h:c∈l.set b k):c=k∨∃ j,j≠b∧l[j]? = some c:=by
 obtain⟨j,hj⟩:=List.getElem?_of_mem h;rcases ZJ hj with h|h
 ·exact .inl h.2
 ·exact .inr ⟨j,h⟩
section
variable {C : Nat→Prop} {mb:Nat} {bv sv:Value} {l : List Int} {m : Zm} {w w':World} {b bb:Nat} {k k':Zt}
theorem W4 (hb:m.bks[b]? = some k) (n1:Yb w k.inv k'.inv) (n2:Yb w k.phv k'.phv):∀ q,Own mb bv { m with bks:=m.bks.set b k' } q→Own mb bv m q∨w.heap.size≤q:=by
 have hk:=List.mem_of_getElem? hb;rintro q (hq|hq|hq|⟨c,hc,hq⟩)
 ·exact .inl (.inl hq)
 ·exact .inl (.inr (.inl hq))
 ·exact .inl (.inr (.inr (.inl hq)))
 ·rcases Yk hc with rfl|⟨j,_,hj⟩
  ·rcases hq with hq|hq
   ·rcases n1 q hq with h|h
    ·exact .inl (.inr (.inr (.inr ⟨k,hk,.inl h⟩)))
    ·exact .inr h
   ·rcases n2 q hq with h|h
    ·exact .inl (.inr (.inr (.inr ⟨k,hk,.inr h⟩)))
    ·exact .inr h
  ·exact .inl (.inr (.inr (.inr ⟨c,List.mem_of_getElem? hj,hq⟩)))
def Bt (bb:Nat) (k:Zt) (q:Nat):Prop:=q=bb∨k.inv.ownBlock=some q∨k.phv.ownBlock=some q
theorem MkOk.bbAt (h:MkOk C mb bv sv l m w) (ha:bv.ownBlock=some bb):HeapIs w bb (m.bks.flatMap fbcells).toArray 177:=by
 rcases h.bks with ⟨h1,_⟩|⟨bb2,h1,h2⟩
 ·rw[h1]at ha;cases ha
 ·rw[h1]at ha;obtain rfl:bb2=bb:=Option.some.inj ha;exact h2
theorem MkOk.upd (h:MkOk C mb bv sv l m w) (hb:m.bks[b]? = some k) (ha:bv.ownBlock=some bb) (t:Zb (Bt bb k) w w') (hy:HeapIs w' bb ((m.bks.set b k').flatMap fbcells).toArray 177)
  (hk:Vi (ZE C mb bv { m with bks:=m.bks.set b k' }) w' k') (n1:Yb w k.inv k'.inv) (n2:Yb w k.phv k'.phv) (hg:∀ x∈k'.ins,Ye m.next x):MkOk C mb bv sv l { m with bks:=m.bks.set b k' } w':=by
 have hz:=t.size;have he:=List.mem_of_getElem? hb;have hS:=W4 (mb:=mb) (bv:=bv) hb n1 n2;have hB:=h.bbAt ha;have hT:∀ q,Bt bb k q→Own mb bv m q:=by
  rintro q (rfl|hq|hq)
  ·exact .inr (.inl ha)
  ·exact .inr (.inr (.inr ⟨k,he,.inl hq⟩))
  ·exact .inr (.inr (.inr ⟨k,he,.inr hq⟩))
 have hl:=h.each k he;have hu:¬ Bt bb k mb:=by
  rintro (e|e|e)
  ·exact h.mb_bv (e ▸ ha)
  ·exact h.mb_ins he e
  ·exact h.mb_phis he e
 have hv:∀ q,m.livev.ownBlock=some q→¬ Bt bb k q:=by
  rintro q hq (rfl|e|e)
  ·exact Zn h.live hB zaJ hq
  ·exact Xr h.live hl.ins zaJ q hq e
  ·exact Xr h.live hl.phis zaJ q hq e
 have ht:∀ (j:Nat) (c:Zt),j≠b→m.bks[j]? = some c→∀ q,c.phv.ownBlock=some q→¬ Bt bb k q:=by
  rintro j c hj hc q hq (rfl|e|e)
  ·exact Zn (h.each c (List.mem_of_getElem? hc)).phis hB zaJ hq
  ·exact Xr (h.each c (List.mem_of_getElem? hc)).phis hl.ins zaJ q hq e
  ·exact (h.apart j b c k hc hb hj).2 q hq e
 have hw:∀ (j:Nat) (c:Zt),j≠b→m.bks[j]? = some c→∀ q,c.inv.ownBlock=some q→¬ Bt bb k q:=by
  rintro j c hj hc q hq (rfl|e|e)
  ·exact Zn (h.each c (List.mem_of_getElem? hc)).ins hB zaJ hq
  ·exact (h.apart j b c k hc hb hj).1 q hq e
  ·exact Xr (h.each c (List.mem_of_getElem? hc)).ins hl.phis zaJ q hq e
 have ho:(m.bks.set b k').length=m.bks.length:=by simp
 refine⟨HeapIs.turn (show HeapIs w mb _ _ from h.made) t hu,⟨h.src.1.turn t fun q hq e=>(h.src.2 q hq).1 (.inl (hT q e)),h.src.2.mono (Ys hS) hz⟩,Zg h.live t hv,?_,fun c hc=>?_,fun i j c d hc hd hm=>?_,by show (m.bks.set b k').length≤512;rw[ho];exact h.few,?_,fun q hq=>⟨Nat.lt_of_lt_of_le (h.aside q hq).1 hz,fun e=>?_⟩⟩
 rotate_right
 ·exact jF
 ·rcases h.bks with ⟨h1,_⟩|⟨bb2,h1,_⟩
  ·rw[h1]at ha;cases ha
  ·rw[h1]at ha;obtain rfl:bb2=bb:=Option.some.inj ha;exact .inr ⟨bb2,by rw[ho];exact h1,hy⟩
 ·rcases Yk hc with rfl|⟨j,hj,hf⟩
  ·exact hk
  ·exact (h.each c (List.mem_of_getElem? hf)).turn t (fun q e=>.inl (hT q e)) (Ys hS) (ht j c hj hf) (hw j c hj hf)
 ·rcases ZJ hc with ⟨rfl,rfl⟩|⟨hi,hp⟩
  ·rcases ZJ hd with ⟨rfl,_⟩|⟨hj,hn⟩
   ·exact absurd rfl hm
   ·have hh:=h.apart i j k d hb hn hm;have hr:=h.each d (List.mem_of_getElem? hn);refine⟨fun q hq e=>?_,fun q hq e=>?_⟩
    ·rcases n1 q hq with h2|h2
     ·exact hh.1 q h2 e
     ·have:=ZR hr.ins e;omega
    ·rcases n2 q hq with h2|h2
     ·exact hh.2 q h2 e
     ·have:=ZR hr.phis e;omega
  ·rcases ZJ hd with ⟨rfl,rfl⟩|⟨hj,hn⟩
   ·have hh:=h.apart i j c k hp hb hm;have hs:=h.each c (List.mem_of_getElem? hp);refine⟨fun q hq e=>?_,fun q hq e=>?_⟩
    ·rcases n1 q e with h2|h2
     ·exact hh.1 q hq h2
     ·have:=ZR hs.ins hq;omega
    ·rcases n2 q e with h2|h2
     ·exact hh.2 q hq h2
     ·have:=ZR hs.phis hq;omega
   ·exact h.apart i j c d hp hn hm
 ·refine⟨h.good.params,h.good.live,fun c hc x hx=>?_⟩;rcases Yk hc with rfl|⟨j,_,hf⟩
  ·exact hg x hx
  ·exact h.good.ins c (List.mem_of_getElem? hf) x hx
theorem MkOk.addIns (h:MkOk C mb bv sv l m w) {x : YF} {v : Value} (hb:m.bks[b]? = some k) (hh:bv.ownBlock=some bb) (he:OwnRow Z6 5 180 0 w' v (k.ins++[x])) (t:Zb (fun q=>k.inv.ownBlock=some q) w w') (hf:Yb w k.inv v) (hx:Zd w x.av x.args∧Stays (ZE C mb bv m) w x.av) (hg:Ye m.next x) :
  MkOk C mb bv sv l { m with bks:=m.bks.set b { k with ins:=k.ins++[x],inv:=v } } (w'.setCell ⟨bb,b*6+1,none⟩ v)∧Mv mb bv w m (w'.setCell ⟨bb,b*6+1,none⟩ v) { m with bks:=m.bks.set b { k with ins:=k.ins++[x],inv:=v } } 0 0 1:=by
 have hd:=List.mem_of_getElem? hb;have ha:=h.each k hd;have hB:=h.bbAt hh;have n2:Yb w k.phv k.phv:=fun q hq=>.inl hq
 have hS:=W4 (mb:=mb) (bv:=bv) (k':={ k with ins:=k.ins++[x],inv:=v }) hb hf n2;have hm:¬ k.inv.ownBlock=some bb:=Zn ha.ins hB zaJ;have hk:HeapIs w' bb (m.bks.flatMap fbcells).toArray 177:=hB.turn t hm;have tc:Zb (fun q=>q=bb) w' (w'.setCell ⟨bb,b*6+1,none⟩ v):=(Zb.refl (fun q=>q=bb) w').setCell (p:=⟨bb,b*6+1,none⟩) rfl _;have tt:Zb (Bt bb k) w (w'.setCell ⟨bb,b*6+1,none⟩ v):=(t.mono fun q _ e=>.inr (.inl e)).trans (tc.mono fun q _ e=>.inl e)
 have hT:∀ q,Bt bb k q→Own mb bv m q:=by
  rintro q (rfl|hq|hq)
  ·exact .inr (.inl hh)
  ·exact .inr (.inr (.inr ⟨k,hd,.inl hq⟩))
  ·exact .inr (.inr (.inr ⟨k,hd,.inr hq⟩))
 have t1:Zb (fun q=>q=bb∨k.inv.ownBlock=some q) w (w'.setCell ⟨bb,b*6+1,none⟩ v):=(t.mono fun q _ e=>.inr e).trans (tc.mono fun q _ e=>.inl e);have hz:=tt.size;have hc:∀ y:Value,Stays (ZE C mb bv m) w y→Stays (ZE C mb bv { m with bks:=m.bks.set b { k with ins:=k.ins++[x],inv:=v } }) (w'.setCell ⟨bb,b*6+1,none⟩ v) y:=fun y hy=>hy.mono (Ys hS) hz
 refine⟨h.upd hb hh tt ?_ ⟨?_,?_,fun y hy=>?_,fun y hy=>?_,?_⟩ hf n2 fun y hy=>?_,⟨tt.mono fun q _ e=>hT q e,hS,by show m.at_≤_;omega,by show m.next≤m.next∧m.next≤_;omega,?_,by show m.live.length≤_;omega,rfl,?_⟩⟩
 ·have h1:=hk.set (b*6+1) v;rw[List.setIfInBounds_toArray,Xn fbcells 6 ZZ 1 v k { k with ins:=k.ins++[x],inv:=v } zaJ rfl _ _ hb]at h1;exact h1
 ·refine Zg ha.phis t1 ?_;rintro q hq (rfl|e)
  ·exact Zn ha.phis hB zaJ hq
  ·exact Xr ha.phis ha.ins zaJ q hq e
 ·exact Zg he tc fun q hq e=>Zn he hk zaJ (e ▸ hq)
 ·exact yP
 ·rcases List.mem_append.1 hy with hy|hy
  ·exact jn
  ·obtain rfl:=List.mem_singleton.1 hy;exact⟨hx.1.turn tt fun q hq e=>(hx.2 q hq).1 (.inl (hT q e)),hc _ hx.2⟩
 ·exact qy
 ·rcases List.mem_append.1 hy with hy|hy
  ·exact h.good.ins k hd y hy
  ·obtain rfl:=List.mem_singleton.1 hy;exact hg
 ·have:∀ (L:List Zt) (i:Nat),L[i]? = some k→((L.set i { k with ins:=k.ins++[x],inv:=v }).map fun c=>c.ins.length).sum=(L.map fun c=>c.ins.length).sum+1:=by
   intro L;induction L with
   | nil=>intro i h;cases h
   | cons c r ih =>
    intro i hi
    cases i with
    | zero =>
     obtain rfl:c=k:=by simpa using hi
     simp;omega
    | succ i =>
     have:=ih i (by simpa using hi);simp only[List.set_cons_succ,List.map_cons,List.sum_cons];omega
  show Zm.total _≤_
  unfold Zm.total;dsimp only;rw[this _ _ hb];exact Nat.le_refl _
 ·show (m.bks.set b _).map _=_
  rw[List.map_set];apply List.ext_getElem?
  intro j;rw[List.getElem?_set];by_cases hj:b=j
  ·subst hj;rw[if_pos rfl];have hl:b<m.bks.length:=(List.getElem?_eq_some_iff.1 hb).1;rw[if_pos (by simpa using hl),List.getElem?_map,hb];rfl
  ·rw[if_neg hj]
theorem MkOk.setLive (h:MkOk C mb bv sv l m w) {more:List Int} {v : Value} (ha:w'.ownsRow 0 3 1 v (m.live++more).length ((m.live++more).map (Value.int .i64))) (t:Zb (fun q=>m.livev.ownBlock=some q) w w') (hd:Yb w m.livev v) (hg:∀ y∈more,0≤y∧y<m.next) :
  MkOk C mb bv sv l { m with live:=m.live++more,livev:=v } (w'.setCell ⟨mb,5,none⟩ v)∧(∀ q,Own mb bv { m with live:=m.live++more,livev:=v } q→Own mb bv m q∨w.heap.size≤q)∧Zb (Own mb bv m) w (w'.setCell ⟨mb,5,none⟩ v):=by
 have hS:∀ q,Own mb bv { m with live:=m.live++more,livev:=v } q→Own mb bv m q∨w.heap.size≤q:=by
  exact qu
 have tc:Zb (fun q=>q=mb) w' (w'.setCell ⟨mb,5,none⟩ v):=(Zb.refl (fun q=>q=mb) w').setCell (p:=⟨mb,5,none⟩) rfl _;have tt:Zb (fun q=>q=mb∨m.livev.ownBlock=some q) w (w'.setCell ⟨mb,5,none⟩ v):=(t.mono fun q _ e=>.inr e).trans (tc.mono fun q _ e=>.inl e);have hT:∀ q,(q=mb∨m.livev.ownBlock=some q)→Own mb bv m q:=by
  rintro q (hq|hq)
  ·exact .inl hq
  ·exact .inr (.inr (.inl hq))
 have hz:=tt.size;have hb:HeapIs w' mb _ _:=HeapIs.turn (show HeapIs w mb _ _ from h.made) t h.mb_live;refine⟨⟨?_,⟨h.src.1.turn tt fun q hq e=>(h.src.2 q hq).1 (.inl (hT q e)),h.src.2.mono (Ys hS) hz⟩,Zg ha tc fun q hq e=>Zn ha hb zaJ (e ▸ hq),?_,fun c hc=>(h.each c hc).turn tt (fun q e=>.inl (hT q e)) (Ys hS) ?_ ?_,h.apart,h.few,⟨h.good.params,?_,h.good.ins⟩,fun q hq=>⟨Nat.lt_of_lt_of_le (h.aside q hq).1 hz,fun e=>?_⟩⟩,hS,tt.mono fun q _ e=>hT q e⟩
 ·have h1:=hb.set 5 v;simpa [MkAt]using h1
 ·exact qC
 ·exact jh
 ·exact jl
 ·intro y hy;rcases List.mem_append.1 hy with hy|hy
  ·exact h.good.live y hy
  ·exact hg y hy
 ·exact jF
theorem MkOk.besides {T : Nat→Prop} (h:MkOk C mb bv sv l m w) (t:Zb T w w') (hT:∀ q,q<w.heap.size→T q→C q):MkOk C mb bv sv l m w':=by
 have t:Zb C w w':=t.mono hT;have hz:=t.size;have hd:∀ q,Own mb bv m q→¬ C q:=fun q hq hc=>(h.aside q hc).2 hq
 have hb:∀ {y : Value},Stays (ZE C mb bv m) w y→Stays (ZE C mb bv m) w' y:=fun hy=>hy.mono (fun _ h=>.inl h) hz
 refine⟨HeapIs.turn (show HeapIs w mb _ _ from h.made) t (hd _ (.inl rfl)),⟨h.src.1.turn t fun q hq e=>(h.src.2 q hq).1 (.inr e),hb h.src.2⟩,Zg h.live t fun q hq=>hd q (.inr (.inr (.inl hq))),?_,fun c hc=>?_,h.apart,h.few,h.good,fun q hq=>⟨Nat.lt_of_lt_of_le (h.aside q hq).1 hz,(h.aside q hq).2⟩⟩
 ·rcases h.bks with h1|⟨bb,h1,h2⟩
  ·exact .inl h1
  ·exact .inr ⟨bb,h1,h2.turn t (hd _ (.inr (.inl (by rw[h1];rfl))))⟩
 ·have ha:=h.each c hc;refine⟨Zg ha.phis t fun q hq=>hd q (.inr (.inr (.inr ⟨c,hc,.inr hq⟩))),Zg ha.ins t fun q hq=>hd q (.inr (.inr (.inr ⟨c,hc,.inl hq⟩))),fun x hx=>?_,fun x hx=>?_,⟨ha.term.1.1.turn t fun q hq e=>(ha.term.2.1 q hq).1 (.inr e),ha.term.1.2.turn t fun q hq e=>(ha.term.2.2 q hq).1 (.inr e)⟩,hb ha.term.2.1,hb ha.term.2.2⟩
  ·obtain⟨h3,h4⟩:=ha.phi x hx;exact⟨RowIn.turn h3 t (fun q hq e=>(h4 q hq).1 (.inr e)) fun _ _ h=>h,hb h4⟩
  ·obtain⟨h3,h4⟩:=ha.arg x hx;exact⟨h3.turn t fun q hq e=>(h4 q hq).1 (.inr e),hb h4⟩
theorem MkOk.swapC {T C':Nat→Prop} (h:MkOk C mb bv sv l m w) (t:Zb T w w') (hT:∀ q,q<w.heap.size→T q→C q) (hC:∀ q,C' q→(C q∨w.heap.size≤q)∧q<w'.heap.size):MkOk C' mb bv sv l m w':=by
 have ha:∀ {y : Value},Stays (ZE C mb bv m) w y→Stays (ZE C' mb bv m) w' y:=fun hy=>hy.mono (by
  rintro q (hq|hq)
  ·exact .inl (.inl hq)
  ·rcases (hC q hq).1 with h1|h1
   ·exact .inl (.inr h1)
   ·exact .inr h1) t.size
 have k:=h.besides t hT;refine⟨k.made,⟨k.src.1,ha h.src.2⟩,k.live,k.bks,fun c hc=>?_,k.apart,k.few,k.good,fun q hq=>⟨(hC q hq).2,fun e=>?_⟩⟩
 ·have hb:=h.each c hc;have kc:=k.each c hc;exact⟨kc.phis,kc.ins,fun x hx=>⟨(kc.phi x hx).1,ha (hb.phi x hx).2⟩,fun x hx=>⟨(kc.arg x hx).1,ha (hb.arg x hx).2⟩,kc.term.1,ha hb.term.2.1,ha hb.term.2.2⟩
 ·rcases (hC q hq).1 with h1|h1
  ·exact (h.aside q h1).2 e
  ·have:=h.ltOwn e;omega
end
end Go.Proofs.YtimpddecdodddaaGreat
