import Derived.Test.YtimpddecdodddaaGreatSb15
import Derived.Laws.CopyOwn
namespace Go.Proofs.YtimpddecdodddaaGreat
open Go.RowKit Go.Lib
set_option linter.unusedVariables false
set_option maxHeartbeats 4000000
set_option maxRecDepth 100000
theorem zC {P:Prop} (h:P:=by
 go_enter Tryz.func35,Tryz.ntmps35
 go_wp2_with fail
 refine (H.out _ ((Since.refl _).alloc _)).mono ?_;rintro e w2 ⟨v,rfl,hb,ha,hs⟩;go_wp2
 go_ret
 exact⟨_,rfl,hb,fun q hq=>⟨by have:=(ha q hq).1;simp at this;omega,(ha q hq).2⟩,((Since.refl _).alloc _).trans hs⟩):P:=h
theorem V8 {k : IntKind} {w : World} {a : Option Addr} {cap:Nat} {l : List Int} (h:Zt k w (.slice a l.length cap) l) (n:Nat) (hn:n≤l.length):Zt k w (.slice a n cap) (l.take n):=by
 rcases h with ⟨_,h1,h2⟩|⟨b,off,cap',h1,h2,h3,hb,hc⟩
 ·subst h2;obtain rfl:n=0:=by simpa using hn
  cases h1
  exact .inl ⟨_,rfl,rfl⟩
 ·cases h1
  have hl:(l.take n).length=n:=by rw[List.length_take];omega
  refine .inr ⟨b,off,cap,by rw[hl],kT,h3,hb,fun j x hj=>?_⟩;refine hc j x ?_;rw[List.getElem?_take]at hj;split at hj
  ·exact hj
  ·cases hj
theorem Kl {base:Nat} {w : World} {v : Value} {l : List Int} (h:w.ownsRow base 21 1 v l.length (l.map (Value.int .i32))) (hl:l.length≤1000000):MemIs w v l∧∀ q,v.ownBlock=some q→base≤q∧q<w.heap.size:=by
 refine⟨?_,fun q hq=>World.ownsRow.lt h q hq⟩;obtain⟨_,⟨hv,hn⟩|⟨g,cap,cur,hv,_,hg,hc,hm,hs,ha⟩⟩:=h
 ·exact .inl ⟨hv,List.length_eq_zero_iff.1 hn⟩
 ·refine .inr ⟨g,cap,cur.toList.drop l.length,21,hv,?_,hl⟩;unfold WAt;rw[hg];rw[Nat.mul_one]at ha;rw[←ha,List.take_append_drop]
def ZeQ (w:World) (l:List Int) (e:Ending) (w':World):Prop:=∃ v,e=.returned v∧MemIs w' v l∧(∀ q,v.ownBlock=some q→w.heap.size≤q∧q<w'.heap.size)∧Since w w'
theorem Tryz.info32:(Tryz.prog.info? 21).map (fun i=>(i.zero,i.size,i.bytes))=some (some (.int .i32 0),1,4):=by kernel_rfl
theorem JR (v:Value) (l:List Int) (w:World) (h:Zt .i32 w v l) (hl:l.length≤4096) :
  Calls Tryz.prog 65 #[v] w (ZeQ w l):=by
 have h':=h;have he:=fun w a l c=>Lib.run_eql_slice_nil (P:=Tryz.prog) w 41 _ a l c 0 0 Tryz.underlying41
 rcases h with ⟨ad,rfl,rfl⟩|⟨b,off,cap,rfl,hf,hd,hb,hc⟩
 ·rcases ad with _|ad
  rotate_left
  ·go_enter Tryz.func65,Tryz.ntmps65
   go_wp2_with (at_builtin;refine YA (w0:=w) .i32 rfl _ _ 41 rfl 21 (.int .i32 0) 4 Tryz.underlying41 Tryz.info32 rfl kS _ _ [] [] rfl rfl (Wu rfl (Nat.le_refl _) _ _) (h'.keep ((Since.refl _).alloc _)) kU ((Since.refl _).alloc _) ?_;intro v' w' ha hs)
   go_ret
   have h2:=Kl (l:=[]) ha kU;exact⟨_,rfl,h2.1,h2.2,hs⟩
  go_enter Tryz.func65,Tryz.ntmps65
  go_wp2
  go_ret
  exact⟨.slice none 0 0,rfl,.inl ⟨rfl,rfl⟩,fun q (hq:none=some q)=>(nomatch hq),.refl _⟩
 ·go_enter Tryz.func65,Tryz.ntmps65
  go_wp2_with (at_builtin;refine YA (w0:=w) .i32 rfl _ _ 41 rfl 21 (.int .i32 0) 4 Tryz.underlying41 Tryz.info32 rfl kS _ _ [] l rfl rfl (Wu rfl (Nat.le_refl _) _ _) (h'.keep ((Since.refl _).alloc _)) kN ((Since.refl _).alloc _) ?_;intro v' w' ha hs)
  go_ret
  have h2:=Kl (l:=l) ha kT;exact⟨_,rfl,h2.1,h2.2,hs⟩
theorem Xp {k : IntKind} {w : World} {a : Option Addr} {cap n:Nat} {l : List Int} (h:Zt k w (.slice a n cap) l):n=l.length∧n≤cap∧cap≤9223372036854775807:=by
 rcases h with ⟨_,h1,h2⟩|⟨b,off,cap',h1,h2,h3,hb,hc⟩
 ·cases h1;subst h2;exact⟨rfl,Nat.le_refl _,kT⟩
 ·cases h1;unfold maxLen at h3;exact⟨rfl,h2,kT⟩
theorem Za7 (av mv0 nv:Value) (st:Int) (l:List Int) (w:World) (h:Zt .i32 w mv0 l) :
  Calls Tryz.prog 35 #[.agg #[av,mv0,nv,.int .i64 st]] w (ZeQ w (l.take 4096)):=by
 obtain⟨a,cap,rfl⟩:=Zb h;obtain⟨_,he,hd⟩:=Xp h;by_cases h5:4096<l.length
 ·have hc:(4096:Int)<(l.length:Int):=kT
  have H:=hid (fun w' (hs:Since w w')=>JR (.slice a 4096 cap) (l.take 4096) w' ((V8 h 4096 kT).keep hs) kN)
  exact zC
 ·have hc:(l.length:Int)≤4096:=kT
  have H:=hid (fun w' (hs:Since w w')=>JR (.slice a l.length cap) (l.take 4096) w' (by rw[List.take_of_length_le kT];exact h.keep hs) kN)
  exact zC
def iv (i:InV):Value:=.agg #[i.argsv,i.memv,i.ansv,.int .i64 i.steps]
def VX (w:World) (i:InV):Prop:=(Zt .i32 w i.argsv i.args∧Zt .i32 w i.memv i.mem∧Zt .i32 w i.ansv i.ans)∧((∀ x∈i.args,In32 x)∧(∀ x∈i.mem,In32 x)∧(∀ x∈i.ans,In32 x))∧i.steps≤1000000
theorem VX.keep {w w':World} {i : InV} (h:VX w i) (s:Since w w'):VX w' i:=⟨⟨h.1.1.keep s,h.1.2.1.keep s,h.1.2.2.keep s⟩,h.2⟩
def XR (w:World) (base:Nat) (v:Value) (o:VV):Prop:=∃ mv cv,v=.agg #[.int .i64 o.e,.int .i32 o.v,mv,cv,.int .i64 o.steps]∧MemIs w mv o.mem∧Yy base w cv o.calls∧∀ q,mv.ownBlock=some q→base≤q
def ZfD (p:Z2) (i:InV) (w:World) (e:Ending) (w':World):Prop:=∃ v,e=.returned v∧XR w' w.heap.size v (YW p i)∧Since w w'
theorem Kr {k sl:Int}:∀ {l : List PlV} {i : Nat} {x : Int × Nat},YG k sl l i=some x→x.1≠0
 | [],_,_,h=>by cases h
 | y::r,i,x,h=>by
  unfold YG at h
  by_cases c:Yv y.m k sl=0
  ·rw[if_pos c]at h;exact Kr h
  ·rw[if_neg c]at h;cases h;exact c
theorem JQ {k sl:Int}:∀ {l : List PlV} {i : Nat},YG k sl l i=none→∀ x∈l,Yv x.m k sl=0
 | [],_,_,_,h=>by cases h
 | y::r,i,h,x,hx=>by
  unfold YG at h
  by_cases c:Yv y.m k sl=0
  ·rw[if_pos c]at h
   rcases List.mem_cons.1 hx with rfl|hx
   ·exact c
   ·exact JQ h x hx
  ·rw[if_neg c]at h;cases h
theorem Zck {k sl n:Int} {b : ZD} (h:X0 k sl n b=none):(∀ x∈b.ins,Yv x.m k sl=0)∧endE b.fin k n=0:=by
 unfold X0 at h
 cases hx:YG k sl b.ins 0 with
 | some x=>rw[hx]at h;cases h
 | none =>
  rw[hx]at h;dsimp only at h;by_cases c:endE b.fin k n=0
  ·exact⟨JQ hx,c⟩
  ·rw[if_neg c]at h;cases h
theorem Zd7 {k sl n:Int} {b : ZD} {x : Int × Nat} (h:X0 k sl n b=some x):x.1≠0:=by
 unfold X0 at h
 cases hx:YG k sl b.ins 0 with
 | some y=>rw[hx]at h;cases h;exact Kr hx
 | none =>
  rw[hx]at h;dsimp only at h;by_cases c:endE b.fin k n=0
  ·rw[if_pos c]at h;cases h
  ·rw[if_neg c]at h;cases h;exact c
theorem Kx {k sl n:Int}:∀ {l : List ZD} {i : Nat} {x : Int × Nat × Nat},YQ k sl n l i=some x→x.1≠0
 | [],_,_,h=>by cases h
 | b::r,i,x,h=>by
  unfold YQ at h
  cases hb:X0 k sl n b with
  | none=>rw[hb]at h;exact Kx h
  | some y=>rw[hb]at h;cases h;exact Zd7 hb
theorem JS {k sl n:Int}:∀ {l : List ZD} {i : Nat},YQ k sl n l i=none→∀ b∈l,X0 k sl n b=none
 | [],_,_,_,h=>by cases h
 | y::r,i,h,b,hb=>by
  unfold YQ at h
  cases hy:X0 k sl n y with
  | some x=>rw[hy]at h;cases h
  | none =>
   rw[hy]at h
   rcases List.mem_cons.1 hb with rfl|hb
   ·exact hy
   ·exact JS h b hb
theorem ZaS {p : Z2} (h:rightB p=true):(0≤p.params∧p.params≤4)∧(4≤p.k∧p.k≤16)∧(0≤p.slots∧p.slots≤16384)∧p.blocks≠[]∧YQ p.k p.slots p.blocks.length p.blocks 0=none:=by
 unfold rightB funcE at h;by_cases c:Vk p=0
 ·rw[if_pos c]at h;have hb:YQ p.k p.slots p.blocks.length p.blocks 0=none:=by
   cases hx:YQ p.k p.slots p.blocks.length p.blocks 0 with
   | none=>rfl
   | some x =>
    exfalso
    rw[hx]at h;have:=Kx hx;simp at h;exact this h
  unfold Vk at c;by_cases c1:p.params<0∨4<p.params∨p.k<4∨16<p.k∨p.slots<0∨16384<p.slots
  ·rw[if_pos c1]at c;omega
  rw[if_neg c1]at c;by_cases c2:p.blocks.length=0
  ·rw[if_pos c2]at c;omega
  refine⟨kT,kT,kT,fun e=>c2 (by rw[e];rfl),hb⟩
 ·rw[if_neg c]at h;simp at h;exact absurd h c
theorem Xl {w : World} {g : Nat} {old:Array Value} {t : TypeId} (h:w.heap[g]? = some (.cells old t (0,0))) (cs:Array Value):(w.setRow g cs).heap[g]? = some (.cells cs t (0,0)):=by
 simp[World.setRow,Array.getElem?_modify,h]
theorem Xg {S : Nat→Prop} {w : World} {g : Nat} (hg:S g) (cs:Array Value):Turn S w (w.setRow g cs):=by
 refine⟨rfl,rfl,rfl,by simp[World.setRow],fun k hk hs=>?_⟩;have:g≠k:=fun e=>hs (e ▸ hg)
 simp[World.setRow,Array.getElem?_modify,this]
def zeros (n:Nat):Array Value:=(List.replicate n (Value.int .i32 0)).toArray
def JA (w0:World) (n:Nat) (v:Value) (w:World):Prop:=∃ b,v=.slice (some ⟨b,0,none⟩) n n∧HeapIs w b (zeros n) 21∧w0.heap.size≤b
theorem JA.stable (w0:World) (n:Nat):ZM (JA w0 n):=fun v w w' ⟨b,h1,h2,h3⟩ s=>⟨b,h1,h2.keep s,h3⟩
def Kp (sl a m n:Value) (st:Int) (om:Value):Array Value:=(List.replicate 16 (Value.int .i32 0)++[sl,a,m,n,.int .i64 st,.int .i64 0,.int .i32 0,om,.slice none 0 0,.int .i64 0,.int .i64 0]).toArray
def QI (w0:World) (n:Nat) (a m ns:Value) (st:Int) (v:Value) (w:World):Prop:=∃ b,v=.agg (Kp (.slice (some ⟨b,0,none⟩) n n) a m ns st (.slice none 0 0))∧HeapIs w b (zeros n) 21∧w0.heap.size≤b
theorem QI.stable (w0:World) (n:Nat) (a m ns:Value) (st:Int):ZM (QI w0 n a m ns st):=fun v w w' ⟨b,h1,h2,h3⟩ s=>⟨b,h1,h2.keep s,h3⟩
def KH (w0:World) (n:Nat) (a m ns:Value) (st:Int) (v:Value) (w:World):Prop:=∃ b mb,v=.pointer (some ⟨mb,0,none⟩)∧HeapIs w b (zeros n) 21∧w0.heap.size≤b∧w0.heap.size≤mb∧HeapIs w mb (Kp (.slice (some ⟨b,0,none⟩) n n) a m ns st (.slice none 0 0)) 80
theorem KH.stable (w0:World) (n:Nat) (a m ns:Value) (st:Int):ZM (KH w0 n a m ns st):=fun v w w' ⟨b,mb,h1,h2,h3,h4,h5⟩ s=>⟨b,mb,h1,h2.keep s,h3,h4,h5.keep s⟩
theorem Za8 {w w1:World} {n : Nat} (hc:w1.ownsRow w.heap.size 21 1 (.slice (some ⟨w.heap.size,0,none⟩) n n) n (madeCells (Value.int .i32 0).cells (n*1)).toList) (hb:w.grownBy w1 none):Since w w1∧HeapIs w1 w.heap.size (zeros n) 21:=by
 have hs:Since w w1:=Below.grown (Since.refl w) hb (Nat.le_refl _) (fun _ h=>by cases h);refine⟨hs,?_⟩;obtain⟨_,⟨hv,_⟩|⟨g,cap,cur,hv,_,hg,_,_,he,ha⟩⟩:=hc
 ·cases hv
 ·injection hv with hv hf hd
  injection hv with hv
  injection hv with hv
  subst hv;subst hd;unfold HeapIs zeros;rw[hg];have h1:cur.toList=List.replicate n (Value.int .i32 0):=by
   rw[List.take_of_length_le (by simp[he])]at ha;rw[ha];show (madeCells #[Value.int .i32 0] (n*1)).toList=_
   rw[toList_madeCells_one,Nat.mul_one]
  have h2:cur=(List.replicate n (Value.int .i32 0)).toArray:=by rw[←h1]
  rw[h2]
def stOf (w:World) (mb:Nat):Int:=match w.cell? ⟨mb,25,none⟩ with
 | some (.int _ x)=>x
 | _=>0
theorem MRun.stOf {c : Cfg} {w : World} {s : St} {cv:Value} {e v st:Int} (h:MRun c w s cv e v st):stOf w c.mb=st:=by
 unfold Go.Proofs.YtimpddecdodddaaGreat.stOf;rw[show w.cell? ⟨c.mb,25,none⟩=some (.int .i64 st) from h.cellr 9]
theorem JU {P : Program} {w : World} {ops:Array Oper} {rest:List Oper} {o : Oper} {a : Act} {Q : Exit→Act→World→Prop} (hh:o.guard=none) (d s:Operand) (dT sT:TypeId)
  (ho:o.op=.call { callee:=.builtin .copy,args:=#[d,s],argTypes:=#[dT,sT] }) (elem:TypeId) (hu:P.underlying dT=some (.slice elem)) (hf:(P.info? elem).map (·.size)=some 1)
  (g dLen dCap:Nat) (sa:Option Addr) (sLen sCap:Nat) (hd:a.eval d=.slice (some ⟨g,0,none⟩) dLen dCap) (hs:a.eval s=.slice sa sLen sCap) (l:List Int) (hl:Zt .i32 w (.slice sa sLen sCap) l)
  (cur:List Value) (t:TypeId) (hg:HeapIs w g cur.toArray t) (hk:dLen≤cur.length)
  (h:∀ v w',HeapIs w' g ((l.take dLen).map (Value.int .i32)++cur.drop (min l.length dLen)).toArray t→Turn (fun q=>q=g) w w'→wpList P ops Q rest (a.put o.dst v) w'):wpList P ops Q (o::rest) a w:=by
 obtain⟨hi,hc⟩:=Zx hl;subst hi;by_cases h0:Nat.min l.length dLen=0
 ·refine wpList_copy_nothing hh d s dT sT ho elem hu hf _ _ _ _ _ _ hd hs h0 (h _ w ?_ (Turn.refl _ w));have h1:l.take dLen=[]:=by
   have:min l.length dLen=0:=h0;rw[List.eq_nil_iff_length_eq_zero,List.length_take];omega
  rw[h1,show min l.length dLen=0 from h0];simpa using hg
 ·have hp:0<l.length∧0<dLen:=by
   have:min l.length dLen≠0:=h0;omega
  obtain⟨b,off,rfl,hb,he⟩:=hc (by intro e;rw[e]at hp;simp at hp);have ha:((l.take dLen).map (Value.int .i32)).length=min l.length dLen:=by rw[List.length_map,List.length_take];omega
  refine wpList_copy_own hh d s dT sT ho elem hu hf g 0 dLen dCap ⟨b,off,none⟩ l.length sCap hd hs cur.toArray t hg ((l.take dLen).map (Value.int .i32)) ha ?_ ?_ ?_ (h _ _ ?_ (Xg (S:=fun q=>q=g) rfl _))
  ·intro j v hj;rw[List.getElem?_map]at hj;obtain⟨n,hn,rfl⟩:=Option.map_eq_some_iff.1 hj;rw[List.getElem?_take]at hn;split at hn
   ·have:=he j n hn;unfold Addr.add;split
    ·rename_i e;subst e;simpa using this
    ·exact this
   ·cases hn
  ·rw[ha];simp;omega
  ·intro v hv;obtain⟨n,_,rfl⟩:=List.mem_map.1 hv;rfl
  ·have:=Xl (w:=w) (g:=g) (old:=cur.toArray) (t:=t) hg (cur.toArray.toList.take 0++((l.take dLen).map (Value.int .i32)++cur.toArray.toList.drop (0+((l.take dLen).map (Value.int .i32)).length))).toArray;rw[ha]at this;have e1:cur.toArray.toList.take 0++((l.take dLen).map (Value.int .i32)++cur.toArray.toList.drop (0+min l.length dLen))=(l.take dLen).map (Value.int .i32)++cur.drop (min l.length dLen):=by rw[List.take_zero,List.nil_append,Nat.zero_add]
   rw[e1]at this;rw[ha,e1];exact this
theorem Yy.base_le {b b':Nat} {w : World} {cv:Value} {calls:List (Int × List Int)} (h:Yy b w cv calls) (hb:b'≤b):Yy b' w cv calls:=by
 obtain⟨evs,h1,h2,h3⟩:=h;exact⟨evs,VM h1 hb,h2,fun e he=>VM (h3 e he) hb⟩
def regsP (P:Nat) (args:List Int):List Int:=(List.range 16).map fun t=>if t<P then args.getD t 0 else 0
theorem Qg (P:Nat) (args:List Int):(regsP P args).length=16:=by simp[regsP]
theorem Zcz (p:Z2) (i:InV) (P:Nat) (h:p.params=P):Jv p i=regsP P i.args:=by
 unfold Jv regsP;rw[h];refine List.map_congr_left fun t _=>?_
 by_cases c:t<P
 ·rw[if_pos c,if_pos kT]
 ·rw[if_neg c,if_neg kT]
theorem ZcA {P : Nat} {args:List Int} (h:∀ x∈args,In32 x):∀ x∈regsP P args,In32 x:=by
 intro x hx;obtain⟨t,_,rfl⟩:=List.mem_map.1 hx;split
 ·exact X7 h t
 ·exact jN
theorem ZbF (P:Nat) (args:List Int) (rest:List Value) (hP:P≤16) :
  (args.take P).map (Value.int .i32)++(List.replicate 16 (Value.int .i32 0)++rest).drop (min args.length P)=(regsP P args).map (Value.int .i32)++rest:=by
 have hq:min args.length P≤16:=kT
 rw[List.drop_append_of_le_length kN,List.drop_replicate,←List.append_assoc];congr 1
 have e:(regsP P args)=args.take P++List.replicate (16-min args.length P) 0:=by
  refine List.ext_getElem? fun i=>?_
  by_cases hi:i<16
  ·have h1:(regsP P args)[i]? = some (if i<P then args.getD i 0 else 0):=by
    unfold regsP;rw[List.getElem?_map,List.getElem?_range hi];rfl
   have ha:(args.take P).length=min args.length P:=by rw[List.length_take];omega
   rw[h1];by_cases hb:i<min args.length P
   ·have h2:(args.take P++List.replicate (16-min args.length P) 0)[i]? = args[i]?:=by
     rw[List.getElem?_append_left (by rw[ha];exact hb),List.getElem?_take_of_lt kT]
    rw[h2,if_pos kT,List.getD_eq_getElem?_getD,List.getElem?_eq_getElem kT];rfl
   ·have h2:(args.take P++List.replicate (16-min args.length P) 0)[i]? = some 0:=by
     rw[List.getElem?_append_right (by rw[ha];omega),ha,List.getElem?_replicate,if_pos kT]
    rw[h2];by_cases c:i<P
    ·rw[if_pos c,List.getD_eq_getElem?_getD,List.getElem?_eq_none kT];rfl
    ·rw[if_neg c]
  ·have ha:(args.take P).length=min args.length P:=by rw[List.length_take];omega
   rw[List.getElem?_eq_none (by rw[Qg];omega),List.getElem?_eq_none (by rw[List.length_append,ha,List.length_replicate];omega)]
 rw[e,List.map_append,List.map_replicate]
theorem Zax (p:Z2) (i:InV) (w:World) (hp:Xu w p) (hi:VX w i):Calls Tryz.prog 13 #[pv p,iv i] w (ZfD p i w):=by
 obtain⟨ba,bc,HY,HG⟩:=hp.1.shape;obtain⟨params,k,slots,blocks,bv⟩:=p;dsimp only at HY HG;subst HY;obtain⟨args,argsv,mem,memv,ans,ansv,steps⟩:=i;obtain⟨⟨Ha,h9,h8⟩,⟨Hy,Hr,Hn⟩,hJ⟩:=hi;dsimp only at Ha h9 h8 Hy Hr Hn hJ;obtain⟨aa,ac,rfl⟩:=Zb Ha;obtain⟨ma,mc,rfl⟩:=Zb h9;obtain⟨na,nc,rfl⟩:=Zb h8;have h4:=fun w' (hs:Since w w')=>Qf ⟨params,k,slots,blocks,.slice ba blocks.length bc⟩ w' (hp.keep hs)
 have Ho:=fun w' (hs:Since w w')=>Za7 (.slice aa args.length ac) (.slice ma mem.length mc) (.slice na ans.length nc) steps mem w' (h9.keep hs)
 have HP:=hid hp;clear hp;have t4:=hid Ha;clear Ha;have t3:=hid h8;clear h8;unfold pv at h4 ⊢;unfold iv;dsimp only at h4 ⊢;generalize H0:mem.take 4096=M0 at Ho;have H7:=hid H0;clear H0;have tX:=hid Ho;clear Ho h9;generalize HO:rightB ⟨params,k,slots,blocks,.slice ba blocks.length bc⟩=rb at *;have HA:=hid HO;clear HO;have tT:=hid h4;clear h4;obtain⟨w3,hE⟩:∃ x,x=((w.alloc (.cells #[.int .i64 params,.int .i64 k,.int .i64 slots,.slice ba blocks.length bc] 27)).alloc (.cells #[.slice aa args.length ac,.slice ma mem.length mc,.slice na ans.length nc,.int .i64 steps] 43)).alloc (.cells #[.int .i64 0,.int .i32 0,.slice none 0 0,.slice none 0 0,.int .i64 0] 47):=⟨_,rfl⟩
 have HN:Since w w3:=by rw[hE];exact (((Since.refl w).alloc _).alloc _).alloc _
 have hP:HeapIs w3 w.heap.size #[.int .i64 params,.int .i64 k,.int .i64 slots,.slice ba blocks.length bc] 27:=by rw[hE];exact ((HeapIs.new _ _ _).keep ((Since.refl _).alloc _)).keep ((Since.refl _).alloc _)
 have hv:HeapIs w3 (w.heap.size+1) #[.slice aa args.length ac,.slice ma mem.length mc,.slice na ans.length nc,.int .i64 steps] 43:=by
  rw[hE];have:=HeapIs.new (w.alloc (.cells #[.int .i64 params,.int .i64 k,.int .i64 slots,.slice ba blocks.length bc] 27)) #[.slice aa args.length ac,.slice ma mem.length mc,.slice na ans.length nc,.int .i64 steps] 43;rw[show (w.alloc (.cells #[.int .i64 params,.int .i64 k,.int .i64 slots,.slice ba blocks.length bc] 27)).heap.size=w.heap.size+1 from by simp]at this;exact this.keep ((Since.refl _).alloc _)
 have hO:HeapIs w3 (w.heap.size+2) #[.int .i64 0,.int .i32 0,.slice none 0 0,.slice none 0 0,.int .i64 0] 47:=by
  rw[hE];have:=HeapIs.new ((w.alloc (.cells #[.int .i64 params,.int .i64 k,.int .i64 slots,.slice ba blocks.length bc] 27)).alloc (.cells #[.slice aa args.length ac,.slice ma mem.length mc,.slice na ans.length nc,.int .i64 steps] 43)) #[.int .i64 0,.int .i32 0,.slice none 0 0,.slice none 0 0,.int .i64 0] 47;rw[show ((w.alloc (.cells #[.int .i64 params,.int .i64 k,.int .i64 slots,.slice ba blocks.length bc] 27)).alloc (.cells #[.slice aa args.length ac,.slice ma mem.length mc,.slice na ans.length nc,.int .i64 steps] 43)).heap.size=w.heap.size+2 from by simp]at this;exact this
 have H4:=hid HN;have hD:=hid hP;have hg:=hid hv;have hn:=hid hO;clear HN hP hv hO;go_enter Tryz.func13,Tryz.ntmps13
 go_wp2_with fail
 rw[←hE];clear hE;refine (tT.out _ H4.out).mono ?_;rintro e w4 ⟨rfl,hL⟩;have hj:=hid (H4.out.trans hL);have hP:=hD.out.keep hL;have hv:=hg.out.keep hL;have hO:=hn.out.keep hL;have hD:=hid hP;have hg:=hid hv;have hn:=hid hO;clear hL hP hv hO
 cases rb with
 | false =>
  go_wp2_with (refine wpList_store_row rfl 47 _ _ rfl (w.heap.size+2) #[.int .i64 4,.int .i32 0,.slice none 0 0,.slice none 0 0,.int .i64 0] rfl rfl 47 _ hn.out kO rfl (by rw[←Array.all_toList];rfl) ?_)
  have hd:HeapIs (w4.setRow (w.heap.size+2) #[.int .i64 4,.int .i32 0,.slice none 0 0,.slice none 0 0,.int .i64 0]) (w.heap.size+2) #[.int .i64 4,.int .i32 0,.slice none 0 0,.slice none 0 0,.int .i64 0] 47:=Xl hn.out _;have hK:Since w (w4.setRow (w.heap.size+2) #[.int .i64 4,.int .i32 0,.slice none 0 0,.slice none 0 0,.int .i64 0]):=(Xg (S:=fun q=>q=w.heap.size+2) rfl _).toSince hj.out (fun q hq e=>by omega);generalize w4.setRow (w.heap.size+2) #[.int .i64 4,.int .i32 0,.slice none 0 0,.slice none 0 0,.int .i64 0]=w5 at *;have c0:=hd.cell 0;have c1:=hd.cell 1;have c2:=hd.cell 2;have c3:=hd.cell 3;have c4:=hd.cell 4;have tD:=hd.lt;have Hz:=hid hK;clear hd hK;go_wp2
  exact bodyPost_ret (v:=.agg #[.int .i64 4,.int .i32 0,.slice none 0 0,.slice none 0 0,.int .i64 0]) (by simp[results,Tryz.results13,go_sem,c0,c1,c2,c3,c4]) rfl (by
   have h6:YW ⟨params,k,slots,blocks,.slice ba blocks.length bc⟩ ⟨args,.slice aa args.length ac,mem,.slice ma mem.length mc,ans,.slice na ans.length nc,steps⟩=⟨4,0,[],[],0⟩:=by unfold YW;rw[HA.out];rfl
   refine⟨_,rfl,?_,Hz.out⟩;rw[h6];exact⟨.slice none 0 0,.slice none 0 0,rfl,.inl ⟨rfl,rfl⟩,Yy.nil _ _,fun q (hq:none=some q)=>(nomatch hq)⟩)
 | true =>
  obtain⟨HR,hk,Hj,hC,Hw⟩:=ZaS HA.out;dsimp only at HR hk Hj hC Hw;obtain⟨tg,Tc⟩:=HR;obtain⟨P,rfl⟩:=Int.eq_ofNat_of_zero_le tg;obtain⟨sl,rfl⟩:=Int.eq_ofNat_of_zero_le Hj.1;have Hi:sl≤16384:=kT
  have HK:=hid hk.2;have H5:=hid hC;have t8:=hid (fun b hb=>Zck (JS Hw b hb))
  clear Hj hk hC Hw;obtain⟨ti,tA,tz,tx,tw⟩:=info_parts (P:=Tryz.prog) (e:=21) (z:=.int .i32 0) (size:=1) (bytes:=4) kO;go_wp2_with fail
  refine Zd rfl kK kK
   [Is (.pointer (some ⟨w.heap.size,2,none⟩)),Is (.int .i64 sl),JA w4 sl,Is (.agg #[.slice aa args.length ac,.slice ma mem.length mc,.slice na ans.length nc,.int .i64 steps]),QI w4 sl (.slice aa args.length ac) (.slice ma mem.length mc) (.slice na ans.length nc) steps,KH w4 sl (.slice aa args.length ac) (.slice ma mem.length mc) (.slice na ans.length nc) steps,KH w4 sl (.slice aa args.length ac) (.slice ma mem.length mc) (.slice na ans.length nc) steps]
   (by repeat (first | exact trivial | refine⟨Is.stable _,?_⟩ | refine⟨Zn.stable _ _,?_⟩ | refine⟨Zz.stable _ _,?_⟩ | refine⟨JA.stable _ _,?_⟩ | refine⟨QI.stable _ _ _ _ _ _,?_⟩ | refine⟨KH.stable _ _ _ _ _ _,?_⟩)) ⟨?_,?_,?_,?_,?_,?_,?_,trivial⟩ ?_
  all_goals
   intro vs w1 hs hk;simp only[putAll,Act.put,Zk,Zc,Ze,Is,List.setIfInBounds_toArray,List.set_cons_zero,List.set_cons_succ,Nat.reduceAdd,List.length_cons,List.length_nil]at hk ⊢;try simp only[hk]
  ·exact jK
  ·have hc:=(hD.out.keep hs).cell 2;have hl:=(hD.out.keep hs).lt;exact jK
  ·refine wpList_make_full _ rfl (.tmp 12) (.tmp 12) 41 rfl w1.heap.size 21 ti (.int .i32 0) 1 Tryz.underlying41 tA tz tx .i64 .i64 _ _ sl rfl rfl rfl rfl (by rw[tw];omega) ky (Nat.le_refl _) ?_;intro w2 th HE;obtain⟨tB,hz⟩:=Za8 th HE;go_wp2
   exact⟨_,rfl,⟨_,rfl,hz,hs.size⟩,tB⟩
  ·have Tm:=(hg.out.keep hs).cell 0;have Tl:=(hg.out.keep hs).cell 1;have Tk:=(hg.out.keep hs).cell 2;have Tj:=(hg.out.keep hs).cell 3;have hl:=(hg.out.keep hs).lt;exact jK
  ·obtain⟨b5,hy,hu,hd⟩:=hk.1;simp only[hy];go_wp2
   exact⟨_,rfl,⟨b5,rfl,hu,hd⟩,.refl _⟩
  ·obtain⟨b5,hy,hu,hd⟩:=hk.1;simp only[hy];have Hc:=hid hu;clear hk hy hu;unfold Kp;go_wp2
   exact⟨_,rfl,⟨b5,_,rfl,Hc.out.keep ((Since.refl _).alloc _),hd,hs.size,HeapIs.new _ _ _⟩,(Since.refl _).alloc _⟩
  ·have h5:=hk.1;clear hk;generalize vs 5=v5 at *;go_wp2
   exact⟨_,rfl,h5,.refl _⟩
  ·obtain⟨b5,mb,hy,hu,hd,tj,Hq⟩:=hk.2.2.2.2.2.2.1;simp only[hy];have hw:=hid hs;have H6:=hid Hq;have Hc:=hid hu;have hN:=fun i=>(hg.out.keep hs).cell i
   have i0:=hN 0;have i1:=hN 1;have i2:=hN 2;have i3:=hN 3;have tm:=(hg.out.keep hs).lt;have hC:b5≠mb:=by
    intro e;subst e;have h1:w1.heap[b5]? = _:=hu;have h2:w1.heap[b5]? = _:=Hq;rw[h1]at h2;simp only[Option.some.injEq,Obj.cells.injEq]at h2;exact absurd h2.2.1 kS
   clear hs hk hy hu Hq hN;go_wp2_with fail
   refine (tX.out _ (hj.out.trans hw.out)).mono ?_;rintro e6 w6 ⟨v6,rfl,Hh,hM,hA⟩;obtain⟨a6,c6,td,_⟩:=Hh.shape;subst td;have h7:=H6.out.keep hA;have g23:w6.cell? ⟨mb,23,none⟩=some (.slice none 0 0):=h7.cell 23;have tG:∀ i,w6.frozen? ⟨mb,i,none⟩=false:=fun i=>by simp[World.frozen?,show w6.heap[mb]? = _ from h7]
   have t1:=hid h7;have tL:=hid (Hc.out.keep hA);have tv:=hid ((hD.out.keep hw.out).keep hA);have tu:=hid ((hg.out.keep hw.out).keep hA);have tt:=hid ((hn.out.keep hw.out).keep hA);have tS:=hid (hw.out.trans hA);have tQ:=hid Hh;have hQ:=zH (∀ q,Value.ownBlock (.slice a6 M0.length c6)=some q→w1.heap.size≤q∧q<w6.heap.size) hM
   have HB:=zH (mb<w1.heap.size∧b5<w1.heap.size) ⟨H6.out.lt,Hc.out.lt⟩;clear hA h7 Hh hM i0 i1 i2 i3 tm;go_wp2_with fail
   have Hk:HeapIs (w6.setCell ⟨mb,23,none⟩ (.slice a6 M0.length c6)) mb (Kp (.slice (some ⟨b5,0,none⟩) sl sl) (.slice aa args.length ac) (.slice ma mem.length mc) (.slice na ans.length nc) steps (.slice a6 M0.length c6)) 80:=by
    have h1:w6.heap[mb]? = _:=t1.out;unfold HeapIs;simp only[World.setCell,Array.getElem?_modify,h1];simp[Kp]
   have t7:Turn (fun q=>q=mb) w6 (w6.setCell ⟨mb,23,none⟩ (.slice a6 M0.length c6)):=(Turn.refl (fun q=>q=mb) w6).setCell (p:=⟨mb,23,none⟩) rfl _;generalize w6.setCell ⟨mb,23,none⟩ (.slice a6 M0.length c6)=w7 at *;have Hs:∀ q,q<w4.heap.size→¬ q=mb:=fun q hq e=>by omega
   have H3:=hid (t7.toSince tS.out Hs);have t0:=hid Hk;have tK:=hid (tL.out.turn t7 hC);have ho:∀ q,Value.ownBlock (.slice a6 M0.length c6)=some q→¬ q=mb:=fun q hq e=>by have:=(hQ.out q hq).1;have:=HB.out.1;omega
   have tP:=hid (tQ.out.turn t7 ho);have h3:=hid (tv.out.turn t7 (by have:=hD.out.lt;omega));have h0:=hid (tu.out.turn t7 (by have:=hg.out.lt;omega));have ts:=hid (tt.out.turn t7 (by have:=hn.out.lt;omega));have tn:=hid t7.size;clear Hk t7 g23 tG ho;refine Zg 8 rfl kK kK kK kS
    [Is (.pointer (some ⟨mb,0,none⟩)),Is (.pointer (some ⟨mb,0,none⟩)),Is (.pointer (some ⟨mb,0,none⟩)),Is (.pointer (some ⟨w.heap.size,0,none⟩)),Is (.int .i64 P),Is (.slice (some ⟨mb,0,none⟩) P 16),Is (.pointer (some ⟨w.heap.size+1,0,none⟩)),Is (.slice aa args.length ac)]
    jT ⟨?_,?_,?_,?_,?_,?_,?_,?_,trivial⟩ ?_
   rotate_right
   ·intro vs w8 hs hk;simp only[List.take,List.drop,putAll,Act.put,Zc,Ze,Is,List.setIfInBounds_toArray,List.set_cons_zero,List.set_cons_succ,Nat.reduceAdd]at hk ⊢;try simp only[hk]
    have H1:Zt .i32 w8 (.slice aa args.length ac) args:=t4.out.keep (hj.out.trans (H3.out.trans hs));have H2:=hid hs;have tZ:=hid (t0.out.keep hs);have tJ:=hid (tK.out.keep hs);have tO:=hid (tP.out.keep hs);have Th:=hid (h3.out.keep hs);have Tg:=hid (h0.out.keep hs);have Tf:=hid (ts.out.keep hs);have t2:=hid H1;clear hs hk H1;refine JU rfl _ _ 41 41 rfl 21 Tryz.underlying41 kO mb P 16 aa args.length ac rfl rfl args t2.out _ 80 tZ.out kN ?_;intro v9 w9 Hp t9;rw[ZbF P args _ kT]at Hp;have Hg:WAt w9 mb (regsP P args) [.slice (some ⟨b5,0,none⟩) sl sl,.slice aa args.length ac,.slice ma mem.length mc,.slice na ans.length nc,.int .i64 steps,.int .i64 0,.int .i32 0,.slice a6 M0.length c6,.slice none 0 0,.int .i64 0,.int .i64 0] 80:=Hp;have ho:∀ q,Value.ownBlock (.slice a6 M0.length c6)=some q→¬ q=mb:=fun q hq e=>by have:=(hQ.out q hq).1;have:=HB.out.1;omega
    have hV:Since w4 w9:=t9.toSince (H3.out.trans H2.out) Hs;have Hf:=tJ.out.turn t9 hC;have HL:=tO.out.turn t9 ho;have te:w6.heap.size≤w9.heap.size:=Nat.le_trans tn.out (Nat.le_trans H2.out.size t9.size);obtain⟨c,hc⟩:∃ c:Cfg,c=⟨w4,mb,w9.heap.size,.slice (some ⟨b5,0,none⟩) sl sl,.slice aa args.length ac,.slice ma mem.length mc,.slice na ans.length nc,steps,.slice a6 M0.length c6,ans⟩:=⟨_,rfl⟩
    have HT:MRun c w9 ⟨regsP P args,List.replicate sl 0,M0,[]⟩ (.slice none 0 0) 0 0 0:=by
     rw[hc];refine⟨hV,tj,Hg.lt,Nat.le_refl _,Hg,Qg _ _,ZcA Hy,fun x hx=>?_,fun x hx=>?_,.inr ⟨b5,sl,[],21,by simp,?_,by simp;omega⟩,fun q hq=>?_,HL,fun q hq=>?_,?_,kS,t3.out.keep hj.out,Hn,Yy.nil _ _⟩
     ·obtain⟨_,rfl⟩:=List.mem_replicate.1 hx;exact jN
     ·rw[←H7.out]at hx;exact Hr x (List.mem_of_mem_take hx)
     ·have h1:w9.heap[b5]? = _:=Hf;unfold WAt;rw[h1];simp[zeros]
     ·obtain rfl:b5=q:=Option.some.inj hq;exact⟨hd,Hf.lt,hC⟩
     ·have h1:=hQ.out q hq;have h2:=HB.out;exact⟨Nat.le_trans hw.out.size h1.1,by dsimp only;omega,ho q hq,fun e=>by have:=Option.some.inj e;dsimp only at this;omega⟩
     ·exact Int.le_refl _
    have hf:c.mb=mb:=by rw[hc]
    have Ht:c.steps=steps:=by rw[hc]
    have Hu:c.ans=ans:=by rw[hc]
    have hh:c.w0=w4:=by rw[hc]
    obtain⟨b0,Hx⟩:∃ b,blocks[0]? = some b:=by
     cases blocks with
     | nil=>exact absurd rfl H5.out
     | cons b r=>exact⟨b,rfl⟩
    generalize hF:ZA ⟨P,k,sl,blocks,.slice ba blocks.length bc⟩ ans steps.toNat ⟨regsP P args,List.replicate sl 0,M0,[]⟩ b0 b0.ins=F;have h6:YW ⟨P,k,sl,blocks,.slice ba blocks.length bc⟩ ⟨args,.slice aa args.length ac,mem,.slice ma mem.length mc,ans,.slice na ans.length nc,steps⟩=ZaY steps.toNat F:=by
     unfold YW;rw[HA.out,if_pos rfl];dsimp only
     cases blocks with
     | nil=>exact absurd rfl H5.out
     | cons b r =>
      obtain rfl:b=b0:=by simpa using Hx
      dsimp only;unfold st0;rw[Zcz _ _ P rfl,←hF];dsimp only;rw[Int.toNat_natCast,H7.out]
    have HF:=hid hF;have tW:=hid h6;have HC:=hid hc;have HM:=hid HT;have Ta:=hid Hx;have hS:=hid hh;have H8:=hid Hu;have He:=hid Ht;have Te:=hid hV;have Tb:mb≠w.heap.size+2:=by have:=hn.out.lt;omega
    clear hF h6 HT Hx hh Hu Ht hV Hf HL Hg Hp t9 ho te hc;go_wp2_with fail
    go_loopw [6] (fun i wr=>(∃ (j:Nat) (b':ZD) (s':St) (cv':Value) (f':Nat),i=.int .i64 j∧blocks[j]? = some b'∧f'≤steps.toNat∧s'.slots.length=sl∧MRun c wr s' cv' 0 0 ((steps.toNat:Int)-(f':Int))∧ZA ⟨P,k,sl,blocks,.slice ba blocks.length bc⟩ ans f' s' b' b'.ins=F)∨(i=.int .i64 (-1)∧∃ cv',MRun c wr F.s cv' F.e F.v ((steps.toNat:Int)-(F.left:Int)))) (fun i wr=>if intOf i<0 then 0 else 1+((steps.toNat:Int)-stOf wr mb).toNat)
    case atStart=>exact .inl ⟨0,b0,_,_,steps.toNat,rfl,Ta.out,Nat.le_refl _,by simp,by rw[Int.sub_self];exact HM.out,HF.out⟩
    case round =>
     rcases hrel with ⟨j,b',s',cv',f',rfl,Hb,tH,tf,ha,Hl⟩|⟨rfl,cv',ha⟩
     ·obtain⟨hW,hY⟩:=t8.out b' (List.mem_of_getElem? Hb);have tE:j<blocks.length:=(List.getElem?_eq_some_iff.1 Hb).1;have he:=ha.old;rw[hS.out]at he;have hT:=ha.stOf;rw[hf]at hT;have tR:=hid hT;have HJ:Since w wr:=hj.out.trans he;have hZ:=hD.out.keep he;obtain⟨B,off,x,rfl,hB,hx,HW,tC⟩:=RowIn.at HP.out.1 tE;rw[Hb]at hx
      cases hx
      obtain⟨xins,xinsv,⟨eop,ea,eb,eto,etov,eimm⟩⟩:=b';obtain⟨hI,hH,Hm⟩:=tC;dsimp only at hI hH Hm hW hY Hl;obtain⟨ia,ic,rfl,tF⟩:=hI.shape;obtain⟨ta,tc,rfl⟩:=Zb hH;have hr:=Zci c ⟨P,k,sl,blocks,.slice (some ⟨B,off,none⟩) blocks.length bc⟩ xins ia ic eop ea eb eto ta tc eimm f' s' cv' wr (by rw[He.out];exact ha) (by rw[He.out];exact tH) (by rw[He.out];exact hJ) (by rw[tf];rfl) HK.out (by rw[hS.out];exact RowIn.keep J3.keep hI hj.out) (by rw[hS.out];exact hH.keep hj.out) hW hY;unfold MPtr at hr;rw[hf,H8.out,Hl]at hr;unfold BlockQ at hr;rw[He.out]at hr;have tr:=hid hr;have hh:=fun t ht=>(HJ.cell (p:=⟨B,off+j*6+t,none⟩) hB).trans (HW t ht)
      have c0:wr.cell? ⟨B,off+j*6,none⟩=some (.slice ia xins.length ic):=hh 0 kS;have c1:wr.cell? ⟨B,off+j*6+1,none⟩=some (.int .i64 eop):=hh 1 kS;have c2:wr.cell? ⟨B,off+j*6+2,none⟩=some (.int .i64 ea):=hh 2 kS;have c3:wr.cell? ⟨B,off+j*6+3,none⟩=some (.int .i64 eb):=hh 3 kS;have c4:wr.cell? ⟨B,off+j*6+4,none⟩=some (.slice ta eto.length tc):=hh 4 kS;have c5:wr.cell? ⟨B,off+j*6+5,none⟩=some (.int .i32 eimm):=hh 5 kS;have p3:wr.cell? ⟨w.heap.size,3,none⟩=some (.slice (some ⟨B,off,none⟩) blocks.length bc):=hZ.cell 3;have Hv:=hZ.lt;clear hh HW hB hI hH Hm hW hY Hl ha he HJ hZ hr Hb tF hT;go_wp2_with fail
      refine tr.out.mono ?_;rintro e2 w2 (⟨rfl,cv2,hG⟩|⟨j2,b2,s2,cv2,f2,rfl,hv,Ti,Hi,hG,HQ⟩)
      ·have HD:=hid hG;clear hG c0 c1 c2 c3 c4 c5 p3 Hv;go_wp2
       go_roundw
       case rel=>exact .inr ⟨rfl,cv2,HD.out⟩
       case measure =>
        rw[if_pos kS,if_neg (by simp[intOf])];omega
      ·have HD:=hid hG;have tM:=zH (blocks[j2]? = some b2) hv;have tU:=hid HQ;have hU:=hG.stOf;rw[hf]at hU;have tp:=hid hU;clear hG hv HQ hU c0 c1 c2 c3 c4 c5 p3 Hv;go_wp2
       go_roundw
       case rel=>exact .inl ⟨j2,b2,s2,cv2,f2,rfl,tM.out,kT,Hi,HD.out,by rw[←H8.out];exact tU.out⟩
       case measure =>
        rw[if_neg (by simp[intOf]),if_neg (by simp[intOf]),tp.out,tR.out];omega
     ·generalize hX:(steps.toNat:Int)-(F.left:Int)=X at *;have HX:=hid hX;clear hX;have he:=ha.old;rw[hS.out]at he;have d0:wr.cell? ⟨mb,21,none⟩=some (.int .i64 F.e):=by rw[←hf];exact ha.cellr 5
      have d1:wr.cell? ⟨mb,22,none⟩=some (.int .i32 F.v):=by rw[←hf];exact ha.cellr 6
      have d2:wr.cell? ⟨mb,23,none⟩=some (.slice a6 M0.length c6):=by rw[←hf];exact (ha.cellr 7).trans (by rw[HC.out];rfl)
      have d3:wr.cell? ⟨mb,24,none⟩=some cv':=by rw[←hf];exact ha.cellr 8
      have d4:wr.cell? ⟨mb,25,none⟩=some (.int .i64 X):=by rw[←hf];exact ha.cellr 9
      have Td:mb<wr.heap.size:=by rw[←hf];exact ha.size
      have HZ:=hn.out.keep he;have H9:=hid HZ;have hR:=hid ha;have tq:=hid he;clear he HZ ha;obtain⟨evs,HU,_⟩:=hR.out.calls;obtain⟨ca,cc,tI⟩:=OwnRow.shape HU;subst tI;clear HU;go_wp2_with (refine wpList_store_row rfl 47 _ _ rfl (w.heap.size+2) #[.int .i64 F.e,.int .i32 F.v,.slice a6 M0.length c6,.slice ca evs.length cc,.int .i64 X] rfl rfl 47 _ H9.out kO rfl (by rw[←Array.all_toList];rfl) ?_)
      have hm:HeapIs (wr.setRow (w.heap.size+2) #[.int .i64 F.e,.int .i32 F.v,.slice a6 M0.length c6,.slice ca evs.length cc,.int .i64 X]) (w.heap.size+2) #[.int .i64 F.e,.int .i32 F.v,.slice a6 M0.length c6,.slice ca evs.length cc,.int .i64 X] 47:=Xl H9.out _;have t5:Turn (fun q=>q=w.heap.size+2) wr (wr.setRow (w.heap.size+2) #[.int .i64 F.e,.int .i32 F.v,.slice a6 M0.length c6,.slice ca evs.length cc,.int .i64 X]):=Xg (S:=fun q=>q=w.heap.size+2) rfl _;generalize wr.setRow (w.heap.size+2) #[.int .i64 F.e,.int .i32 F.v,.slice a6 M0.length c6,.slice ca evs.length cc,.int .i64 X]=w5 at *;have e0:=hm.cell 0;have e1:=hm.cell 1;have e2:=hm.cell 2;have e3:=hm.cell 3;have e4:=hm.cell 4;have tD:=hm.lt;have hK:Since w w5:=t5.toSince (hj.out.trans tq.out) (fun q hq e=>by omega);have tl:=hn.out.lt;have HH:w4.heap.size≤c.base:=by have h1:=hR.out.lt;have h2:=hR.out.new;rw[hS.out]at h2;omega
      have HS:MemIs w5 (.slice a6 M0.length c6) F.s.mem:=by
       have h1:=hR.out.mem;rw[show c.outm=.slice a6 M0.length c6 from by rw[HC.out]]at h1
       exact h1.turn t5 fun q hq e=>by have:=(hQ.out q hq).1;have:=hw.out.size;omega
      have HV:=(hR.out.calls.turn t5 fun q hq e=>by omega);have hM:∀ q,Value.ownBlock (.slice a6 M0.length c6)=some q→w.heap.size≤q:=fun q hq=>by have:=(hQ.out q hq).1;have:=hw.out.size;have:=hj.out.size;omega
      have HI:w.heap.size≤c.base:=by have:=hj.out.size;omega
      have Hz:=hid hK;have tY:=hid HS;have t6:=hid HV;have tV:=hid hM;have tN:=hid HI;clear hm t5 hK HS HV hM HI HH d0 d1 d2 d3 d4 tl;go_wp2
      exact bodyPost_ret (v:=.agg #[.int .i64 F.e,.int .i32 F.v,.slice a6 M0.length c6,.slice ca evs.length cc,.int .i64 X]) (by simp[results,Tryz.results13,go_sem,e0,e1,e2,e3,e4]) rfl (by
       refine⟨_,rfl,?_,Hz.out⟩;rw[tW.out];exact⟨_,_,by rw[←HX.out];rfl,tY.out,t6.out.base_le tN.out,tV.out⟩)
   all_goals
    intro vs w8 hs hk _;simp only[List.take,putAll,Act.put,Zk,Ze,Is,List.setIfInBounds_toArray,List.set_cons_zero,List.set_cons_succ,Nat.reduceAdd]at hk ⊢;try simp only[hk]
   iterate 4
    ·exact jK
   ·have hc:=(h3.out.keep hs).cell 0;have hl:=(h3.out.keep hs).lt;exact jK
   ·have Tn:P≤16:=kT
    have To:(P:Int)≤16:=kT
    exact jK
   ·exact jK
   ·have hc:=(h0.out.keep hs).cell 0;have hl:=(h0.out.keep hs).lt;exact jK
end Go.Proofs.YtimpddecdodddaaGreat
