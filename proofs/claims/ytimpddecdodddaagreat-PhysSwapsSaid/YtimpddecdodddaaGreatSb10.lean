import Derived.Test.YtimpddecdodddaaGreatSb09
namespace Go.Proofs.YtimpddecdodddaaGreat
open Go.RowKit Go.Lib
theorem zQ {P:Prop} (h:P:=by
 intro vs w1 _ ha hk;simp only[putAll,Act.put,Zc,Ze,Is,Any,List.setIfInBounds_toArray,List.set_cons_zero,List.set_cons_succ,Nat.reduceAdd,List.length_cons,List.length_nil]at hk ⊢;try simp only[hk]
 go_wp2
 go_ret
 exact⟨rfl,⟨cv,ha.2⟩,ha.1.2.2⟩):P:=h
theorem qY {P:Prop} (h:P:=by
 have hc:e.on<listed.size:=by omega
 rw[Array.getD_eq_getD_getElem?,Array.getElem?_eq_getElem hc]at this ⊢;simpa using this):P:=h
theorem y9 {P:Prop} (h:P:=by
 have hg:=hd.1.2.1 3;have hh:=hd.1.1;go_wp2
 exact⟨_,rfl,rfl,trivial,hd⟩):P:=h
theorem jH {P:Prop} (h:P:=by
 go_wp2
 exact⟨_,rfl,rfl,trivial,ha⟩):P:=h
theorem jI {P:Prop} (h:P:=by
 go_wp2
 exact⟨_,rfl,rfl,trivial,hd⟩):P:=h
theorem jY {P:Prop} (h:P:=by repeat (first | exact trivial | refine⟨Is.fixed _,?_⟩ | refine⟨Any.fixed,?_⟩)):P:=h
def ZZ (keys:List Nat) (listed:Array Bool):Nat:=keys.countP fun k=>listed.getD k false
def loK (l:List Oper) (keys:List Nat) (i:Nat):Nat:=keys.countP fun k=>XV l l.length k i
def hiK (l:List Oper) (keys:List Nat) (i:Nat):Nat:=keys.countP fun k=>!XV l l.length i k&&!(k==i)
def Jz (l:List Oper) (keys los his incs:List Nat):Bool:=
 los==(List.range l.length).map (loK l keys)&&his==(List.range l.length).map (hiK l keys)&&incs==(List.range l.length).map (fun i=>if keys.contains i then 1 else 0)&&decide keys.Nodup&&keys.all (fun k=>decide (k<l.length))
def QJ (R:World→World→Prop) (Ph:Nat→World→Prop) (F:Nat→Value→World→Prop) (i n:Nat) (dst:Option Tmp) (a:Act) (w:World) (a':Act) (w':World):Prop:=∃ v,a'=a.put dst v∧F i v w'∧R w w'∧Ph n w'
def Zbl (R:World→World→Prop) (Ph:Nat→World→Prop) (Q:Exit→Act→World→Prop) (F:Nat→Value→World→Prop) (i n:Nat) (dst:Option Tmp) (a:Act) (w:World):Exit→Act→World→Prop
 | .normal,a',w'=>QJ R Ph F i n dst a w a' w'
 | e,a',w'=>Q e a' w'
def Jl (R:World→World→Prop) (Ph:Nat→World→Prop) (P:Program) (all:Array Oper) (Q:Exit→Act→World→Prop) (F:Nat→Value→World→Prop) (a0:Act) (w0:World):List Oper→List Nat→List Nat→List Nat→Nat→Prop
 | o::r,lo::los,hi::his,inc::incs,k=>(∀ (p:Nat) (vs:Nat→Value) (w:World),lo≤p→p≤hi→R w0 w→Ph p w→Zk F vs w o.after.toList →
   wpList P all (Zbl R Ph Q F k (p+inc) o.dst (putAll all.toList 0 vs a0) w) [o] (putAll all.toList 0 vs a0) w)∧Jl R Ph P all Q F a0 w0 r los his incs (k+1)
 | _,_,_,_,_=>True
theorem Qd {R : World→World→Prop} {Ph:Nat→World→Prop} {P : Program} {all:Array Oper} {Q : Exit→Act→World→Prop} {F : Nat→Value→World→Prop} {a0:Act} {w0:World}:∀ (l:List Oper) (los ha incs:List Nat) (k:Nat),Jl R Ph P all Q F a0 w0 l los ha incs k→los.length=l.length→ha.length=l.length→incs.length=l.length→∀ (i:Nat) (o:Oper),l[i]? = some o→all[k+i]? = some o →
  ∀ (p:Nat) (vs:Nat→Value) (w:World),los.getD i 0≤p→p≤ha.getD i 0→R w0 w→Ph p w→Zk F vs w o.after.toList→∀ K:Act→World→Prop,(∀ a' w',QJ R Ph F (k+i) (p+incs.getD i 0) o.dst (putAll all.toList 0 vs a0) w a' w'→K a' w') →
   wpOp P all Q (k+i) K (putAll all.toList 0 vs a0) w
 | [],_,_,_,_,_,_,_,_,_,_,h,_=>by cases h
 | _::_,[],_,_,_,_,h,_,_,_,_,_,_=>by simp at h
 | _::_,_::_,[],_,_,_,_,h,_,_,_,_,_=>by simp at h
 | _::_,_::_,_::_,[],_,_,_,_,h,_,_,_,_=>by simp at h
 | p::r,lo::los,hi::ha,inc::incs,k,h,_,_,_,0,o,ho,hall=>by
  obtain rfl:p=o:=by simpa using ho
  intro q vs w hc hd hw hb hk K hK
  have:=h.1 q vs w hc hd hw hb hk
  unfold wpOp
  rw[hall]
  simp only[wpList]at this
  show if _ then _ else _
  split
  ·rename_i hwant
   rw[if_pos hwant]at this
   rcases this with this|⟨h1,h2⟩
   ·exact .inl (Oper.wp_turn (fun _ _ _ h=>h) (fun h=>h) (Oper.wp_mono (fun a' w' h=>hK a' w' h) this))
   ·exact .inr ⟨h1,h2⟩
  ·rename_i hwant
   rw[if_neg hwant]at this
   exact hK _ _ this
 | p::r,lo::los,hi::ha,inc::incs,k,h,h1,h2,h3,i+1,o,ho,hall=>by
  have:=Qd r los ha incs (k+1) h.2 kE kF kG i o (by simpa using ho) kd
  rw[show k+1+i=k+(i+1) from by omega]at this
  exact this
theorem WO {keys:List Nat} {listed:Array Bool} {i : Nat} (h:i∉keys):ZZ keys (listed.setIfInBounds i true)=ZZ keys listed:=by
 unfold ZZ;refine List.countP_congr fun k hk=>?_
 have ha:i≠k:=fun e=>h (by rw[e];exact hk)
 rw[getD_set_ne _ ha]
theorem WP {listed:Array Bool} {i : Nat} (hi:i<listed.size) (hl:listed.getD i false=false):∀ {keys:List Nat},keys.Nodup→i∈keys→ZZ keys (listed.setIfInBounds i true)=ZZ keys listed+1
 | [],_,h=>by cases h
 | k::r,hn,h=>by
  rw[List.nodup_cons]at hn
  have ha:(listed.setIfInBounds i true).getD i false=true:=by simp[Array.getD_eq_getD_getElem?,hi]
  by_cases hk:k=i
  ·subst hk
   have hs:=WO (listed:=listed) hn.1
   unfold ZZ at hs ⊢
   rw[List.countP_cons,List.countP_cons,hs,ha,hl]
   simp
  ·have hr:=WP hi hl hn.2 ((List.mem_cons.1 h).resolve_left (fun e=>hk e.symm))
   unfold ZZ at hr ⊢
   rw[List.countP_cons,List.countP_cons,hr,getD_set_ne _ (fun e=>hk e.symm)]
   omega
section
variable {P : Program} {Q : Exit→Act→World→Prop} {l : List Oper} {F : Nat→Value→World→Prop} {a0:Act} {w0:World} {R : World→World→Prop} {Ph:Nat→World→Prop} {keys los his incs:List Nat}
theorem Zbj (hu:Jz l keys los his incs=true) (h6:∀ a b c,R a b→R b c→R a c) (hF:∀ i v w w',F i v w→R w w'→F i v w') (hd:ZY l=true) (hb:Z1 l 0=true)
  (hs:Jl R Ph P l.toArray Q F a0 w0 l los his incs 0)
  (he:∀ vs w,R w0 w→Ph keys.length w→Zc F vs w 0 l.length→Q .normal (putAll l 0 vs a0) w) :
  ∀ (fuel:Nat) (listed:Array Bool) (vs:Nat→Value) (w:World),listed.size=l.length→((List.range l.length).filter fun i=>!listed.getD i true).length≤fuel→R w0 w→Ph (ZZ keys listed) w→Vd l listed →
   (∀ i,i<l.length→listed.getD i true=true→F i (vs i) w)→wpAny P .any l.toArray Q fuel listed (putAll l 0 vs a0) w:=by
 unfold Jz at hu;simp only[Bool.and_eq_true,beq_iff_eq,decide_eq_true_eq,List.all_eq_true]at hu;obtain⟨⟨⟨⟨hG,hJ⟩,hB⟩,hV⟩,hA⟩:=hu;have hK:∀ (listed:Array Bool) (vs:Nat→Value) (w:World),listed.size=l.length→Region.ready .any l.toArray listed=[]→R w0 w→Ph (ZZ keys listed) w →
   (∀ i,i<l.length→listed.getD i true=true→F i (vs i) w)→Q .normal (putAll l 0 vs a0) w:=by
  intro listed vs w hg hr hw hm hk;have all:∀ (n i:Nat),i<n→i<l.length→listed.getD i true=true:=by
   intro n;induction n with
   | zero=>intro i h;omega
   | succ n ih =>
    intro i h1 h2
    cases hl:listed.getD i true with
    | true=>rfl
    | false =>
     exfalso
     have:i∈Region.ready .any l.toArray listed:=by
      rw[mem_ready];have ho:l[i]? = some l[i]:=List.getElem?_eq_getElem h2;refine⟨hl,l[i],by simp,fun e hM hu=>?_⟩;have hf:=Yn l 0 hb i l[i] ho e hM hu;have:=ih e.on kT kT;exact qY
     exact jQ
  have hP:ZZ keys listed=keys.length:=by
   unfold ZZ;rw[List.countP_eq_length];intro k hk;have hH:=hA k hk;have:=all (k+1) k kT hH;have hc:k<listed.size:=kT
   rw[Array.getD_eq_getD_getElem?,Array.getElem?_eq_getElem hc]at this ⊢;simpa using this
  rw[hP]at hm;exact he vs w hw hm (XA F vs w _ 0 fun i _ hi=>hk i kT (all (i+1) i kT kT))
 have hN:∀ (listed:Array Bool) (i:Nat),listed.size=l.length→i<l.length→listed.getD i false=listed.getD i true:=by
  intro listed i hg hi;have hc:i<listed.size:=kT
  rw[Array.getD_eq_getD_getElem?,Array.getD_eq_getD_getElem?,Array.getElem?_eq_getElem hc];rfl
 intro fuel;induction fuel with
 | zero =>
  intro listed vs w hg hn hw hm _ hk;have hr:Region.ready .any l.toArray listed=[]:=by
   rw[List.eq_nil_iff_forall_not_mem];intro i hi;rw[mem_ready]at hi;obtain⟨h1,o,ho,_⟩:=hi;have hf:i<l.length:=by simpa using (Array.getElem?_eq_some_iff.1 ho).1
   have:i∈(List.range l.length).filter fun i=>!listed.getD i true:=by
    rw[List.mem_filter];exact⟨List.mem_range.2 hf,by simp[h1]⟩
   have:=List.length_pos_of_mem this;omega
  exact⟨hr,hK listed vs w hg hr hw hm hk⟩
 | succ fuel ih =>
  intro listed vs w hg hn hw hm hD hk;refine⟨fun hr=>hK listed vs w hg hr hw hm hk,fun i hi=>?_⟩;rw[mem_ready]at hi;obtain⟨h1,o,ho,hy⟩:=hi;have hq:l[i]? = some o:=by simpa using ho
  have hf:i<l.length:=(List.getElem?_eq_some_iff.1 hq).1;have hO:Zk F vs w o.after.toList:=by
   refine Wj F vs w _ fun e hM hE=>?_
   have hL:e∈o.after:=by simpa using hM
   have h7:=Yn l 0 hb i o hq e hL hE;have hY:e.on<l.length:=kT
   refine hk e.on hY ?_;have:=hy e hL hE;exact qY
  have hI:listed.getD i false=false:=by rw[hN listed i hg hf];exact h1
  have hZ:los.getD i 0≤ZZ keys listed:=by
   rw[hG];simp only[List.getD_eq_getElem?_getD,List.getElem?_map,List.getElem?_range hf,Option.map_some,Option.getD_some];exact List.countP_mono_left fun k _ ht=>YX hD _ _ _ ht o hq hy
  have h3:ZZ keys listed≤his.getD i 0:=by
   rw[hJ];simp only[List.getD_eq_getElem?_getD,List.getElem?_map,List.getElem?_range hf,Option.map_some,Option.getD_some];refine List.countP_mono_left fun k h0 ht=>?_
   simp only[Bool.and_eq_true,Bool.not_eq_true',beq_eq_false_iff_ne];refine⟨?_,fun e=>by rw[e,hI]at ht;cases ht⟩
   cases h4:XV l l.length i k with
   | false=>rfl
   | true =>
    exfalso
    have hH:=hA k h0;have hR:l[k]? = some l[k]:=List.getElem?_eq_getElem hH;have:=YX hD _ _ _ h4 _ hR (hD k _ hR ht);rw[hI]at this;cases this
  have hX:incs.getD i 0=if keys.contains i then 1 else 0:=by
   rw[hB];simp only[List.getD_eq_getElem?_getD,List.getElem?_map,List.getElem?_range hf,Option.map_some,Option.getD_some]
  have hz:=Qd l los his incs 0 hs (by rw[hG];simp) (by rw[hJ];simp) (by rw[hB];simp) i o hq (by simpa using hq) (ZZ keys listed) vs w hZ h3 hw hm hO;rw[Nat.zero_add]at hz;refine hz _ fun a' w' ⟨v,h5,hv,hQ,hh⟩=>?_
  subst h5;have e:=XN v l 0 vs a0 i o hq hd;rw[Nat.zero_add]at e;rw[show l.toArray.toList=l from rfl,←e];refine ih (listed.setIfInBounds i true) (upd vs i v) w' kB ?_ (h6 _ _ _ hw hQ) ?_ ?_ ?_
  ·have e2:((List.range l.length).filter fun j=>!(listed.setIfInBounds i true).getD j true)=((List.range l.length).filter fun j=>!listed.getD j true).filter fun j=>j != i:=by
    rw[List.filter_filter];refine List.filter_congr fun j hj=>?_
    by_cases ha:j=i
    ·subst ha;have hc:j<listed.size:=kT
     simp[Array.getD_eq_getD_getElem?,hc]
    ·exact jG
   rw[e2];have hW:i∈(List.range l.length).filter fun j=>!listed.getD j true:=by
    rw[List.mem_filter];exact⟨List.mem_range.2 hf,by simp[h1]⟩
   have:=(List.length_filter_lt_length_iff_exists (p:=fun j=>j != i) (l:=(List.range l.length).filter fun j=>!listed.getD j true)).2 ⟨i,hW,by simp⟩
   omega
  ·rw[hX]at hh;by_cases hC:i∈keys
   ·rw[WP kT hI hV hC];rw[if_pos (by simpa using hC)]at hh;exact hh
   ·rw[WO hC];rw[if_neg (by simpa using hC)]at hh;exact hh
  ·intro j p hp hT x hx hU;by_cases ha:j=i
   ·subst ha;have:=hq.symm.trans hp;cases this
    exact getD_set_true (hy x hx hU)
   ·rw[getD_set_ne _ (Ne.symm ha)]at hT;exact getD_set_true (hD j p hp hT x hx hU)
  ·intro j hj hS;by_cases ha:j=i
   ·subst ha;rw[Wh];exact hv
   ·rw[Xo _ _ ha];rw[getD_set_ne _ (Ne.symm ha)]at hS;exact hF _ _ _ _ (hk j hj hS) hQ
theorem KR {id:Nat} (keys los ha incs:List Nat) (R:World→World→Prop) (Ph:Nat→World→Prop) (hh:∀ a b c,R a b→R b c→R a c) (hj:R w0 w0.drew) (hm:P.follows .mixedOrders=true) (hd:ZY l=true) (hb:Z1 l 0=true) (hg:Jz l keys los ha incs=true)
  (Fs:List (Value→World→Prop)) (hF:∀ i v w w',Ze Fs i v w→R w w'→Ze Fs i v w') (hf:Ph 0 w0.drew)
  (hs:Jl R Ph P l.toArray Q (Ze Fs) a0 w0 l los ha incs 0)
  (he:∀ vs w,R w0 w→Ph keys.length w→Zc (Ze Fs) vs w 0 l.length→Q .normal (putAll l 0 vs a0) w):(Code.region id l.toArray true).wp P Q a0 w0:=by
 refine wp_region_any hm ?_;have e:=Xq (YT l a0) a0 l 0 (fun i o d hi hc=>by simp[YT,hi,hc]);have h:=Zbj hg hh hF hd hb hs he l.length (Array.replicate l.length false) (YT l a0) { w0 with drawn:=w0.drawn+1 } kU (Nat.le_trans (List.length_filter_le _ _) kU) hj
  (by
   have:ZZ keys (Array.replicate l.length false)=0:=by
    unfold ZZ;rw[List.countP_eq_zero];intro k _;simp[Array.getD_eq_getD_getElem?,Array.getElem?_replicate];split<;>simp
   rw[this];exact hf)
  (fun i o ho hl=>by
   have hi:i<l.length:=(List.getElem?_eq_some_iff.1 ho).1;simp[Array.getD_eq_getD_getElem?,hi]at hl)
  (fun i hi hl=>by simp[Array.getD_eq_getD_getElem?,hi]at hl)
 rw[e]at h;simpa using h
end
def K9:List (Value→World→Prop)→Prop
 | []=>True
 | f::r=>Zak f∧K9 r
theorem Ql:∀ (l:List (Value→World→Prop)),K9 l→∀ i v w w',Ze l i v w→Ze l i v w'
 | [],_,_,_,_,_,h=>h
 | _::_,hl,0,v,w,w',h=>hl.1 v w w' h
 | _::r,hl,i+1,v,w,w',h=>Ql r hl.2 i v w w' h
theorem Any.fixed:Zak Any:=fun _ _ _ h=>h
theorem ZU {P : Program} {Q : Exit→Act→World→Prop} {l : List Oper} {a0:Act} {w0:World} {id:Nat} (keys los ha incs:List Nat) (Ph:Nat→World→Prop) (hm:P.follows .mixedOrders=true) (hd:ZY l=true) (hb:Z1 l 0=true) (hf:Jz l keys los ha incs=true)
  (Fs:List (Value→World→Prop)) (hF:K9 Fs) (hc:Ph 0 w0.drew)
  (hs:Jl (fun _ _=>True) Ph P l.toArray Q (Ze Fs) a0 w0 l los ha incs 0)
  (he:∀ vs w,True→Ph keys.length w→Zc (Ze Fs) vs w 0 l.length→Q .normal (putAll l 0 vs a0) w):(Code.region id l.toArray true).wp P Q a0 w0:=
 KR keys los ha incs (fun _ _=>True) Ph (fun _ _ _ _ _=>trivial) trivial hm hd hb hf Fs (fun i v w w' h _=>Ql Fs hF i v w w' h) hc hs he
set_option linter.unusedVariables false
set_option maxHeartbeats 1000000
set_option maxRecDepth 100000
def MPtr (c:Cfg):Value:=.pointer (some ⟨c.mb,0,none⟩)
def Bz (c:Cfg) (cv:Value) (q:Nat):Prop:=ZeS c q∨cv.ownBlock=some q
def DoQ (c:Cfg) (w:World) (cv:Value) (st:Int) (r:Option Int × St) (e:Ending) (w':World):Prop:=
 e=.returned (.bool r.1.isNone)∧(∃ cv',MRun c w' r.2 cv' (if r.1.isNone then 0 else 2) (r.1.getD 0) st)∧Turn (Bz c cv) w w'
def BoxM (c:Cfg) (cv:Value) (w0 w:World) (m:Mach) (av:Value):Prop:=w0.heap.size+1<w.heap.size∧(∀ i,w.cell? ⟨w0.heap.size+1,i,none⟩=(#[.int .i64 m.op,.int .i64 m.d,.int .i64 m.e,.int .i64 m.a,.int .i64 m.b,.int .i64 m.c,.int .i32 m.imm,av]:Array Value)[i]?)∧Turn (Bz c cv) w0 w
theorem BoxM.set {c : Cfg} {cv:Value} {w0 w:World} {m : Mach} {av:Value} (h:BoxM c cv w0 w m av) {p : Addr} (hp:p.block<w0.heap.size) (hb:ZeS c p.block) (x:Value):BoxM c cv w0 (w.setCell p x) m av:=
 ⟨by simpa [World.setCell]using h.1,fun i=>(World.cell?_of_block (Below.heap_setCell _ _ _ _ (Nat.ne_of_gt (Nat.lt_succ_of_lt hp)))).trans (h.2.1 i),h.2.2.setCell (.inl hb) x⟩
theorem BoxM.new (c:Cfg) (cv:Value) (w0:World) (o:Obj) (m:Mach) (av:Value):BoxM c cv w0 (((w0.alloc o).alloc (.cells #[.int .i64 m.op,.int .i64 m.d,.int .i64 m.e,.int .i64 m.a,.int .i64 m.b,.int .i64 m.c,.int .i32 m.imm,av] 36)).drew) m av:=by
 refine⟨by simp[World.drew],fun i=>?_,Turn.since (((Since.refl w0).alloc _).alloc _).drew⟩;have:=ZV (w0.alloc o) (.cells #[.int .i64 m.op,.int .i64 m.d,.int .i64 m.e,.int .i64 m.a,.int .i64 m.b,.int .i64 m.c,.int .i32 m.imm,av] 36);rw[show (w0.alloc o).heap.size=w0.heap.size+1 from by simp]at this;simp only[World.cell?,World.drew];rw[this];rfl
theorem X7 {l : List Int} (h:∀ x∈l,In32 x) (i:Nat):In32 (l.getD i 0):=by
 rw[List.getD_eq_getElem?_getD]
 cases hx:l[i]? with
 | none=>exact⟨by simp,by simp⟩
 | some x=>exact h x (List.mem_of_getElem? hx)
theorem Zcu (c:Cfg) (s:St) (cv:Value) (st:Int) (op d e:Int) (a b:Nat) (cc imm:Int) (args:List Int) (av:Value) (w:World) (h:MRun c w s cv 0 0 st) (ha:a<16) (hb:b<16) :
  Calls Tryz.prog 165 #[.agg #[],mv ⟨op,d,e,a,b,cc,imm,args⟩ av,MPtr c] w (DoQ c w cv st (none,{ s with regs:=(s.regs.set a (s.regs.getD b 0)).set b (s.regs.getD a 0) })):=by
 have hf:=h.size;have hj:=X7 h.r32 a;have hi:=X7 h.r32 b;have ga:∀ w1,MRun c w1 s cv 0 0 st→w1.cell? ⟨c.mb,a,none⟩=some (.int .i32 (s.regs.getD a 0)):=fun w1 h1=>h1.reg ha
 have gb:∀ w1,MRun c w1 s cv 0 0 st→w1.cell? ⟨c.mb,b,none⟩=some (.int .i32 (s.regs.getD b 0)):=fun w1 h1=>h1.reg hb
 unfold DoQ MPtr mv;dsimp only;generalize s.regs.getD a 0=xa at *;generalize s.regs.getD b 0=xb at *;have H:=hid h;clear h;go_enter Tryz.func165,Tryz.ntmps165
 go_wp2_with fail
 refine ZU [23,27] [0,0,0,0,0,0,0,0,0,0,0,0,0,0,0,0,0,0,0,0,0,0,0,0,0,0,1,1] [0,0,0,1,1,1,0,0,0,0,0,0,0,0,0,0,0,0,0,0,0,0,0,0,1,1,1,1] [0,0,0,0,0,0,0,0,0,0,0,0,0,0,0,0,0,0,0,0,0,0,0,1,0,0,0,1] (fun p w1=>BoxM c cv w w1 ⟨op,d,e,a,b,cc,imm,args⟩ av∧MRun c w1 (if p=0 then s else if p=1 then { s with regs:=s.regs.set a xb } else { s with regs:=(s.regs.set a xb).set b xa }) cv 0 0 st) rfl kK kK kK
  [Is (.pointer (some ⟨c.mb,0,none⟩)),Is (.pointer (some ⟨w.heap.size+1,3,none⟩)),Is (.int .i64 a),Is (.pointer (some ⟨c.mb,0,none⟩)),Is (.pointer (some ⟨w.heap.size+1,4,none⟩)),Is (.int .i64 b),Is (.pointer (some ⟨c.mb,0,none⟩)),Is (.pointer (some ⟨w.heap.size+1,4,none⟩)),Is (.int .i64 b),Is (.pointer (some ⟨c.mb,0,none⟩)),Is (.pointer (some ⟨c.mb,0,none⟩)),Is (.pointer (some ⟨c.mb,b,none⟩)),Is (.int .i32 xb),Is (.pointer (some ⟨c.mb,0,none⟩)),Is (.pointer (some ⟨w.heap.size+1,3,none⟩)),Is (.int .i64 a),Is (.pointer (some ⟨c.mb,0,none⟩)),Is (.pointer (some ⟨c.mb,0,none⟩)),Is (.pointer (some ⟨c.mb,a,none⟩)),Is (.int .i32 xa),Is (.pointer (some ⟨c.mb,0,none⟩)),Is (.pointer (some ⟨c.mb,0,none⟩)),Is (.pointer (some ⟨c.mb,a,none⟩)),Any,Is (.pointer (some ⟨c.mb,0,none⟩)),Is (.pointer (some ⟨c.mb,0,none⟩)),Is (.pointer (some ⟨c.mb,b,none⟩)),Any]
  jY ⟨BoxM.new c cv w _ ⟨op,d,e,a,b,cc,imm,args⟩ av,H.out.keep (((Since.refl w).alloc _).alloc _).drew⟩ ⟨?_,?_,?_,?_,?_,?_,?_,?_,?_,?_,?_,?_,?_,?_,?_,?_,?_,?_,?_,?_,?_,?_,?_,?_,?_,?_,?_,?_,trivial⟩ ?_
 rotate_right
 ·intro vs w1 _ hd hk;simp only[putAll,Act.put,Zc,Ze,Is,Any,List.setIfInBounds_toArray,List.set_cons_zero,List.set_cons_succ,Nat.reduceAdd,List.length_cons,List.length_nil]at hk ⊢;try simp only[hk]
  go_wp2
  go_ret
  exact⟨rfl,⟨cv,hd.2⟩,hd.1.2.2⟩
 all_goals
  intro p vs w1 hm hn _ hd hk;simp only[putAll,Act.put,Zk,Ze,Is,Any,List.setIfInBounds_toArray,List.set_cons_zero,List.set_cons_succ,Nat.reduceAdd]at hk ⊢;try simp only[hk]
 iterate 2
  ·exact jI
 ·exact y9
 iterate 2
  iterate 2
   ·exact jI
  ·have hg:=hd.1.2.1 4;have hh:=hd.1.1;exact jI
 iterate 3
  ·exact jI
 ·obtain rfl:p=0:=kT
  have he:MRun c w1 s cv 0 0 st:=hd.2;have hc:=gb w1 he;exact jI
 iterate 2
  ·exact jI
 ·exact y9
 iterate 3
  ·exact jI
 ·obtain rfl:p=0:=kT
  have he:MRun c w1 s cv 0 0 st:=hd.2;have hc:=ga w1 he;exact jI
 iterate 3
  ·exact jI
 ·obtain rfl:p=0:=kT
  have he:MRun c w1 s cv 0 0 st:=hd.2;have hc:=ga w1 he;have hl:=he.mat.frozen;go_wp2
  exact⟨.bool true,rfl,trivial,trivial,hd.1.set (p:=⟨c.mb,a,none⟩) hf (.inl rfl) _,he.setReg ha hi⟩
 iterate 3
  ·exact jI
 ·obtain rfl:p=1:=kT
  have he:MRun c w1 { s with regs:=s.regs.set a xb } cv 0 0 st:=hd.2;have hc:=he.reg hb;have hl:=he.mat.frozen;go_wp2
  exact⟨.bool true,rfl,trivial,trivial,hd.1.set (p:=⟨c.mb,b,none⟩) hf (.inl rfl) _,he.setReg hb hj⟩
theorem MemIs.cell {w : World} {b n cap:Nat} {M : List Int} (h:MemIs w (.slice (some ⟨b,0,none⟩) n cap) M) {i : Nat} (hi:i<M.length):w.cell? ⟨b,i,none⟩=some (.int .i32 (M.getD i 0))∧(∀ j,w.frozen? ⟨b,j,none⟩=false):=by
 obtain⟨b',rest,T,hb,hw⟩:=h.at hi
 cases hb
 exact⟨hw.cell hi,hw.frozen⟩
theorem MRun.setSlot {c : Cfg} {w : World} {s : St} {cv:Value} {e v st:Int} {sb sc:Nat} (h:MRun c w s cv e v st) (ha:c.slv=.slice (some ⟨sb,0,none⟩) s.slots.length sc) {i : Nat} (hi:i<s.slots.length) {x : Int} (hx:In32 x) :
  MRun c (w.setCell ⟨sb,i,none⟩ (.int .i32 x)) { s with slots:=s.slots.set i x } cv e v st:=by
 have ho:=h.sown sb (by rw[ha];rfl);have t:Turn (fun k=>k=sb) w (w.setCell ⟨sb,i,none⟩ (.int .i32 x)):=(Turn.refl (fun k=>k=sb) w).setCell (p:=⟨sb,i,none⟩) rfl _;have hc:=h.slots;rw[ha]at hc;obtain⟨b',rest,T,hb,hw⟩:=hc.at hi
 cases hb
 obtain⟨_,_,_,hl⟩:=h.slots.shape;refine h.turn t (fun q hq=>by subst hq;exact⟨ho.1,ho.2.1⟩) (h.mat.turn t (fun e=>ho.2.2 e.symm)) h.len h.r32 ?_ (fun y hy=>?_) (h.mem.turn t fun q hq e=>(h.mown q hq).2.2.2 (by rw[ha];exact congrArg some e.symm)) h.m32 rfl h.few h.most
 ·rw[ha];exact MemIs.set hw hl hi x
 ·rcases List.mem_or_eq_of_mem_set hy with hy|rfl
  ·exact h.s32 y hy
  ·exact hx
theorem Zcw (c:Cfg) (s:St) (cv:Value) (st:Int) (e a b cc:Int) (d i:Nat) (args:List Int) (av:Value) (w:World) (h:MRun c w s cv 0 0 st) (hd:d<16) (hi:i<s.slots.length) :
  Calls Tryz.prog 166 #[.agg #[],mv ⟨30,d,e,a,b,cc,i,args⟩ av,MPtr c] w (DoQ c w cv st (none,{ s with regs:=s.regs.set d (s.slots.getD i 0) })):=by
 have hh:=h.size;obtain⟨sb,sc,he⟩:∃ sb sc,c.slv=.slice (some ⟨sb,0,none⟩) s.slots.length sc:=by
  obtain⟨a',cap',hf,_⟩:=h.slots.shape;have hs:=h.slots;rw[hf]at hs;obtain⟨b',_,_,hm,_⟩:=hs.at hi;exact⟨b',cap',by rw[hf,hm]⟩
 have g16:∀ w1 s1,MRun c w1 s1 cv 0 0 st→w1.cell? ⟨c.mb,16,none⟩=some (.slice (some ⟨sb,0,none⟩) s.slots.length sc):=fun w1 s1 h1=>(h1.cellr 0).trans (congrArg some he)
 have gs:∀ w1,MRun c w1 s cv 0 0 st→w1.cell? ⟨sb,i,none⟩=some (.int .i32 (s.slots.getD i 0))∧(∀ j,w1.frozen? ⟨sb,j,none⟩=false):=fun w1 h1=>(he ▸ h1.slots).cell hi
 have hg:=X7 h.s32 i;unfold DoQ MPtr mv;dsimp only;generalize s.slots.getD i 0=xs at *;generalize hn:s.slots.length=n at *;have HN:=hid hn;clear hn;have hr:=hid he;clear he;have H:=hid h;clear h;go_enter Tryz.func166,Tryz.ntmps166
 go_wp2_with fail
 refine ZU [14] [0,0,0,0,0,0,0,0,0,0,0,0,0,0,0] [0,0,0,0,0,0,0,0,0,0,0,0,0,0,0] [0,0,0,0,0,0,0,0,0,0,0,0,0,0,1] (fun p w1=>BoxM c cv w w1 ⟨30,d,e,a,b,cc,i,args⟩ av∧MRun c w1 (if p=0 then s else { s with regs:=s.regs.set d xs }) cv 0 0 st) rfl kK kK kK
  [Is (.pointer (some ⟨c.mb,0,none⟩)),Is (.pointer (some ⟨w.heap.size+1,1,none⟩)),Is (.int .i64 d),Is (.pointer (some ⟨c.mb,0,none⟩)),Is (.pointer (some ⟨c.mb,0,none⟩)),Is (.pointer (some ⟨c.mb,16,none⟩)),Is (.slice (some ⟨sb,0,none⟩) n sc),Is (.pointer (some ⟨w.heap.size+1,6,none⟩)),Is (.int .i32 i),Is (.pointer (some ⟨sb,i,none⟩)),Is (.int .i32 xs),Is (.pointer (some ⟨c.mb,0,none⟩)),Is (.pointer (some ⟨c.mb,0,none⟩)),Is (.pointer (some ⟨c.mb,d,none⟩)),Any]
  jY ⟨BoxM.new c cv w _ ⟨30,d,e,a,b,cc,i,args⟩ av,H.out.keep (((Since.refl w).alloc _).alloc _).drew⟩ ⟨?_,?_,?_,?_,?_,?_,?_,?_,?_,?_,?_,?_,?_,?_,?_,trivial⟩ ?_
 rotate_right
 ·exact zQ
 all_goals
  intro p vs w1 ho hp _ ha hk;simp only[putAll,Act.put,Zk,Ze,Is,List.setIfInBounds_toArray,List.set_cons_zero,List.set_cons_succ,Nat.reduceAdd]at hk ⊢;try simp only[hk]
 iterate 2
  ·exact jH
 ·have hj:=ha.1.2.1 1;have hl:=ha.1.1;exact jH
 iterate 3
  ·exact jH
 ·obtain rfl:p=0:=kT
  have hb:MRun c w1 s cv 0 0 st:=ha.2;have hc:=g16 w1 s hb;exact jH
 ·exact jH
 ·have hj:=ha.1.2.1 6;have hl:=ha.1.1;exact jH
 ·exact jH
 ·obtain rfl:p=0:=kT
  have hb:MRun c w1 s cv 0 0 st:=ha.2;have hc:=gs w1 hb;exact jH
 iterate 3
  ·exact jH
 ·obtain rfl:p=0:=kT
  have hb:MRun c w1 s cv 0 0 st:=ha.2;have hc:=hb.reg hd;have hq:=hb.mat.frozen;go_wp2
  exact⟨.bool true,rfl,trivial,trivial,ha.1.set (p:=⟨c.mb,d,none⟩) hh (.inl rfl) _,hb.setReg hd hg⟩
theorem Zcv (c:Cfg) (s:St) (cv:Value) (st:Int) (d e b cc:Int) (a i:Nat) (args:List Int) (av:Value) (w:World) (h:MRun c w s cv 0 0 st) (hd:a<16) (hi:i<s.slots.length) :
  Calls Tryz.prog 166 #[.agg #[],mv ⟨31,d,e,a,b,cc,i,args⟩ av,MPtr c] w (DoQ c w cv st (none,{ s with slots:=s.slots.set i (s.regs.getD a 0) })):=by
 have hp:=h.size;obtain⟨sb,sc,hb⟩:∃ sb sc,c.slv=.slice (some ⟨sb,0,none⟩) s.slots.length sc:=by
  obtain⟨a',cap',hf,_⟩:=h.slots.shape;have hs:=h.slots;rw[hf]at hs;obtain⟨b',_,_,ho,_⟩:=hs.at hi;exact⟨b',cap',by rw[hf,ho]⟩
 have g16:∀ w1 s1,MRun c w1 s1 cv 0 0 st→w1.cell? ⟨c.mb,16,none⟩=some (.slice (some ⟨sb,0,none⟩) s.slots.length sc):=fun w1 s1 h1=>(h1.cellr 0).trans (congrArg some hb)
 have gs:∀ w1,MRun c w1 s cv 0 0 st→w1.cell? ⟨sb,i,none⟩=some (.int .i32 (s.slots.getD i 0))∧(∀ j,w1.frozen? ⟨sb,j,none⟩=false):=fun w1 h1=>(hb ▸ h1.slots).cell hi
 have hh:=X7 h.r32 a;have hj:sb<w.heap.size:=h.slots.lt (by rw[hb];rfl);have gr:∀ w1,MRun c w1 s cv 0 0 st→w1.cell? ⟨c.mb,a,none⟩=some (.int .i32 (s.regs.getD a 0)):=fun w1 h1=>h1.reg hd
 generalize s.regs.getD a 0=xr at *;unfold DoQ MPtr mv;dsimp only;generalize s.slots.getD i 0=xs at *;generalize hn:s.slots.length=n at *;have HN:=hid hn;clear hn;have hg:=hid hb;clear hb;have H:=hid h;clear h;go_enter Tryz.func166,Tryz.ntmps166
 go_wp2_with fail
 refine ZU [14] [0,0,0,0,0,0,0,0,0,0,0,0,0,0,0] [0,0,0,0,0,0,0,0,0,0,0,0,0,0,0] [0,0,0,0,0,0,0,0,0,0,0,0,0,0,1] (fun p w1=>BoxM c cv w w1 ⟨31,d,e,a,b,cc,i,args⟩ av∧MRun c w1 (if p=0 then s else { s with slots:=s.slots.set i xr }) cv 0 0 st) rfl kK kK kK
  [Is (.pointer (some ⟨c.mb,0,none⟩)),Is (.pointer (some ⟨c.mb,0,none⟩)),Is (.pointer (some ⟨c.mb,16,none⟩)),Is (.slice (some ⟨sb,0,none⟩) n sc),Is (.pointer (some ⟨w.heap.size+1,6,none⟩)),Is (.int .i32 i),Is (.pointer (some ⟨c.mb,0,none⟩)),Is (.pointer (some ⟨w.heap.size+1,3,none⟩)),Is (.int .i64 a),Is (.pointer (some ⟨c.mb,0,none⟩)),Is (.pointer (some ⟨c.mb,0,none⟩)),Is (.pointer (some ⟨c.mb,a,none⟩)),Is (.int .i32 xr),Is (.pointer (some ⟨sb,i,none⟩)),Any]
  jY ⟨BoxM.new c cv w _ ⟨31,d,e,a,b,cc,i,args⟩ av,H.out.keep (((Since.refl w).alloc _).alloc _).drew⟩ ⟨?_,?_,?_,?_,?_,?_,?_,?_,?_,?_,?_,?_,?_,?_,?_,trivial⟩ ?_
 rotate_right
 ·exact zQ
 all_goals
  intro p vs w1 hq hr _ ha hk;simp only[putAll,Act.put,Zk,Ze,Is,List.setIfInBounds_toArray,List.set_cons_zero,List.set_cons_succ,Nat.reduceAdd]at hk ⊢;try simp only[hk]
 iterate 3
  ·exact jH
 ·obtain rfl:p=0:=kT
  have he:MRun c w1 s cv 0 0 st:=ha.2;have hc:=g16 w1 s he;exact jH
 ·exact jH
 ·have hl:=ha.1.2.1 6;have hm:=ha.1.1;exact jH
 iterate 2
  ·exact jH
 ·have hl:=ha.1.2.1 3;have hm:=ha.1.1;exact jH
 iterate 3
  ·exact jH
 ·obtain rfl:p=0:=kT
  have he:MRun c w1 s cv 0 0 st:=ha.2;have hc:=gr w1 he;exact jH
 ·exact jH
 ·obtain rfl:p=0:=kT
  have he:MRun c w1 s cv 0 0 st:=ha.2;obtain⟨hc,ht⟩:=gs w1 he;go_wp2
  exact⟨.bool true,rfl,trivial,trivial,ha.1.set (p:=⟨sb,i,none⟩) hj (.inr (.inl (by rw[hg.out];rfl))) _,he.setSlot (hg.out.trans (by rw[HN.out])) (by rw[HN.out];exact hi) hh⟩
theorem Xy {R : List Int} (h:∀ x∈R,In32 x) {i v:Int} (hv:In32 v):∀ x∈setR R i v,In32 x:=by
 unfold setR;split
 ·intro x hx;rcases List.mem_or_eq_of_mem_set hx with hx|rfl
  ·exact h x hx
  ·exact hv
 ·exact h
theorem ZcV (a b:Int) (ha:In32 a) (hb:In32 b):In32 (highI a b):=by
 have:=Qm a b ha.1 ha.2 hb.1 hb.2;unfold In32 highI;omega
theorem Zb8 {op a b v:Int} (ha:In32 a) (hb:In32 b) (h:doI op a b=some v):In32 v:=by
 have ea:(BitVec.ofInt 32 a).toInt=a:=by rw[BitVec.toInt_ofInt];unfold In32 at ha;exact Int.bmod_eq_of_le kT kT
 have eb:(BitVec.ofInt 32 b).toInt=b:=by rw[BitVec.toInt_ofInt];unfold In32 at hb;exact Int.bmod_eq_of_le kT kT
 have:=Zd2 op (BitVec.ofInt 32 a) (BitVec.ofInt 32 b);rw[ea,eb,h]at this;obtain⟨x,_,hx⟩:=Option.map_eq_some_iff.1 this.symm;have h1:=BitVec.toInt_lt (x:=x);have h2:=BitVec.le_toInt (x:=x);rw[hx]at h1 h2;unfold In32;omega
theorem Zb7 (m:Mach) (R M:List Int) (hf:Yw m) (hR:∀ x∈R,In32 x) (hM:∀ x∈M,In32 x) :
  (doM m R M).2.1.length=R.length∧(∀ x∈(doM m R M).2.1,In32 x)∧(∀ x∈(doM m R M).2.2,In32 x)∧In32 ((doM m R M).1.getD 0):=by
 have hA:=Zl hR m.a;have hB:=Zl hR m.b;have hC:=Zl hR m.c;have hI:In32 m.imm:=⟨hf.1,hf.2.1⟩;have h0:In32 0:=⟨kT,kT⟩;have hb:∀ (l:List Int) (i:Nat) (v:Int),(∀ x∈l,In32 x)→In32 v→∀ x∈l.set i v,In32 x:=fun l i v hl hv x hx=>by
  rcases List.mem_or_eq_of_mem_set hx with hx|rfl
  ·exact hl x hx
  ·exact hv
 unfold doM;dsimp only;by_cases c1:m.op=1
 ·rw[if_pos c1];exact⟨ZR _ _ _,Xy hR hA,hM,h0⟩
 rw[if_neg c1];by_cases c2:m.op=2
 ·rw[if_pos c2];exact⟨by rw[ZR,ZR],Xy (Xy hR hB) hA,hM,h0⟩
 rw[if_neg c2];by_cases c3:m.op=3∨m.op=4
 ·rw[if_pos c3];exact⟨ZR _ _ _,Xy hR hI,hM,h0⟩
 rw[if_neg c3];by_cases c4:5≤m.op∧m.op≤17
 ·rw[if_pos c4]
  cases hv:doI (m.op-3) (getR R m.a) (getR R m.b) with
  | none=>exact⟨rfl,hR,hM,by unfold In32;simp⟩
  | some v=>exact⟨ZR _ _ _,Xy hR (Zb8 hA hB hv),hM,h0⟩
 rw[if_neg c4];by_cases c5:18≤m.op∧m.op≤22
 ·rw[if_pos c5];refine⟨ZR _ _ _,Xy hR ?_,hM,h0⟩
  cases hv:doI (aluOp m.op) (getR R m.a) m.imm with
  | none=>exact h0
  | some v=>exact Zb8 hA hI hv
 rw[if_neg c5];by_cases c6:m.op=23
 ·rw[if_pos c6];exact⟨ZR _ _ _,Xy hR (Z5 _),hM,h0⟩
 rw[if_neg c6];by_cases c7:m.op=24∨m.op=25
 ·rw[if_pos c7];generalize wrap32 _=at';by_cases ha:0≤at'∧at' < (M.length:Int)
  ·rw[if_pos ha];exact⟨ZR _ _ _,Xy hR (X7 hM _),hM,h0⟩
  ·rw[if_neg ha];exact⟨rfl,hR,hM,by unfold In32;simp⟩
 rw[if_neg c7];by_cases c8:m.op=26∨m.op=27
 ·rw[if_pos c8];generalize wrap32 _=at';by_cases ha:0≤at'∧at' < (M.length:Int)
  ·rw[if_pos ha];refine⟨rfl,hR,hb _ _ _ hM ?_,h0⟩;by_cases c9:m.op=26
   ·rw[if_pos c9];exact hB
   ·rw[if_neg c9];exact hC
  ·rw[if_neg ha];exact⟨rfl,hR,hM,by unfold In32;simp⟩
 rw[if_neg c8];by_cases c10:m.op=29
 ·rw[if_pos c10];exact⟨by rw[ZR,ZR],Xy (Xy hR (Z5 _)) (ZcV _ _ hA hB),hM,h0⟩
 ·rw[if_neg c10];exact⟨rfl,hR,hM,h0⟩
theorem ZbH (c:Cfg) (s:St) (cv:Value) (st:Int) (m:Mach) (av:Value) (w:World) (h:MRun c w s cv 0 0 st) (hi:Zi c.w0 av m.args) (hf:Yw m) (hl:∀ q,av.ownBlock=some q→q<c.w0.heap.size) :
  Calls Tryz.prog 168 #[.agg #[],mv m av,MPtr c] w (DoQ c w cv st ((doM m s.regs s.mem).1,{ s with regs:=(doM m s.regs s.mem).2.1,mem:=(doM m s.regs s.mem).2.2 })):=by
 have hy:=h.size;have hj:(∀ q,av.ownBlock=some q→q≠c.mb∧c.outm.ownBlock≠some q)∧c.outm.ownBlock≠some c.mb:=
  ⟨fun q hq=>⟨fun e=>by have:=hl q hq;have:=h.new;omega,fun e=>by have:=hl q hq;have:=(h.mown q e).1;omega⟩,fun e=>(h.mown _ e).2.2.1 rfl⟩
 have hg:∀ w1,MRun c w1 s cv 0 0 st→Calls Tryz.prog 169 #[mv m av,.slice (some ⟨c.mb,0,none⟩) 16 16,c.outm] w1 (fun e w'=>e=.returned (.tuple #[.int .i32 ((doM m s.regs s.mem).1.getD 0),.bool (doM m s.regs s.mem).1.isNone])∧MRun c w' { s with regs:=(doM m s.regs s.mem).2.1,mem:=(doM m s.regs s.mem).2.2 } cv 0 0 st∧Turn (Bz c cv) w1 w'):=fun w1 h1=>by
  obtain⟨ok1,ok2,ok3,_⟩:=Zb7 m s.regs s.mem hf h1.r32 h1.m32;have hd:=Zd3 m av c.outm s.regs s.mem c.mb 16 _ _ w1 (hi.keep h1.old) hf h1.mat h1.r32 (by rw[h1.len];decide) h1.mem hj;rw[h1.len]at hd;refine hd.mono ?_;rintro e w' ⟨rfl,ht,hw,t⟩;refine⟨rfl,h1.turn t (fun q hq=>?_) ht (ok1.trans h1.len) ok2 (h1.slots.turn t fun q hq e=>?_) h1.s32 hw ok3 rfl h1.few h1.most,t.mono fun q _ hq=>.inl (hq.elim .inl fun h=>.inr (.inr h))⟩
  ·rcases hq with rfl|hq
   ·exact⟨h1.new,h1.lt⟩
   ·exact⟨(h1.mown q hq).1,(h1.mown q hq).2.1⟩
  ·rcases e with rfl|e
   ·exact (h1.sown _ hq).2.2 rfl
   ·exact (h1.mown q e).2.2.2 hq
 have hh:=(Zb7 m s.regs s.mem hf h.r32 h.m32).2.2.2;have hn:∀ w1,MRun c w1 s cv 0 0 st→w1.cell? ⟨c.mb,23,none⟩=some c.outm:=fun w1 h1=>h1.cellr 7
 have hm:=h.few;have hb:=h.most;obtain⟨aa,ac,hr⟩:=Zb hi;subst hr;unfold DoQ MPtr mv;unfold mv at hg;generalize doM m s.regs s.mem=D at *;obtain⟨tr,R',M'⟩:=D;dsimp only at hg hh ⊢;obtain⟨ma,mc,hv,_⟩:=h.mem.shape;rw[hv]at hg hn;have hx:=hid hg;clear hg;have H:=hid h;clear h;have HV:=hid hh;clear hh;clear hj hl hi hf;go_enter Tryz.func168,Tryz.ntmps168
 go_wp2_with fail
 refine ZU [10] [0,0,0,0,0,0,0,0,0,0,0,1,1,1,1,1] [0,0,0,0,0,0,0,0,0,0,0,1,1,1,1,1] [0,0,0,0,0,0,0,0,0,0,1,0,0,0,0,0] (fun p w1=>if p=0 then BoxM c cv w w1 m (.slice aa m.args.length ac)∧MRun c w1 s cv 0 0 st else MRun c w1 { s with regs:=R',mem:=M' } cv 0 0 st∧Turn (Bz c cv) w w1) rfl kK kK kK
  [Is (.agg #[.int .i64 m.op,.int .i64 m.d,.int .i64 m.e,.int .i64 m.a,.int .i64 m.b,.int .i64 m.c,.int .i32 m.imm,.slice aa m.args.length ac]),Is (.pointer (some ⟨c.mb,0,none⟩)),Is (.pointer (some ⟨c.mb,0,none⟩)),Is (.pointer (some ⟨c.mb,0,none⟩)),Is (.slice (some ⟨c.mb,0,none⟩) 16 16),Is (.pointer (some ⟨c.mb,0,none⟩)),Is (.pointer (some ⟨c.mb,0,none⟩)),Is (.pointer (some ⟨c.mb,21,none⟩)),Is (.pointer (some ⟨c.mb,23,none⟩)),Is (.slice ma s.mem.length mc),Is (.tuple #[.int .i32 (tr.getD 0),.bool tr.isNone]),Is (.tuple #[.int .i32 (tr.getD 0),.bool tr.isNone]),Is (.int .i32 (tr.getD 0)),Is (.bool tr.isNone),Is (.int .i32 (tr.getD 0)),Is (.bool tr.isNone)]
  jY ⟨BoxM.new c cv w _ m (.slice aa m.args.length ac),H.out.keep (((Since.refl w).alloc _).alloc _).drew⟩ ⟨?_,?_,?_,?_,?_,?_,?_,?_,?_,?_,?_,?_,?_,?_,?_,?_,trivial⟩ ?_
 rotate_right
 ·intro vs w1 _ ha hk;simp only[putAll,Act.put,Zc,Ze,Is,List.setIfInBounds_toArray,List.set_cons_zero,List.set_cons_succ,Nat.reduceAdd,List.length_cons,List.length_nil]at hk ⊢;try simp only[hk]
  have he:MRun c w1 { s with regs:=R',mem:=M' } cv 0 0 st:=ha.1;have ho:=zH (Turn (Bz c cv) w w1) ha.2;have hB:=he.mat.frozen;have g5:w1.cell? ⟨c.mb,21,none⟩=some (.int .i64 0):=he.cellr 5;have g6:w1.cell? ⟨c.mb,22,none⟩=some (.int .i32 0):=he.cellr 6;have hp:=hid he;clear he
  cases tr with
  | none =>
   dsimp only[Option.isNone,Option.getD];go_wp2
   go_ret
   exact⟨rfl,⟨cv,hp.out⟩,ho.out⟩
  | some t =>
   dsimp only[Option.isNone,Option.getD];go_wp2
   go_ret
   exact⟨rfl,⟨cv,(hp.out.set1 5 _ rfl hm hb).set1 6 _ rfl hm hb⟩,(ho.out.setCell (p:=⟨c.mb,21,none⟩) (.inl (.inl rfl)) _).setCell (p:=⟨c.mb,22,none⟩) (.inl (.inl rfl)) _⟩
 all_goals
  intro p vs w1 hz hA _ ha hk;simp only[putAll,Act.put,Zk,Ze,Is,List.setIfInBounds_toArray,List.set_cons_zero,List.set_cons_succ,Nat.reduceAdd]at hk ⊢;try simp only[hk]
 ·obtain rfl:p=0:=kT
  have hb:BoxM c cv w w1 m (.slice aa m.args.length ac)∧_:=ha;have hC:=hb.1.2.1;have hD:=hb.1.1;exact jH
 iterate 8
  ·exact jH
 ·obtain rfl:p=0:=kT
  have hb:BoxM c cv w w1 m (.slice aa m.args.length ac)∧_:=ha;have hc:=hn w1 hb.2;exact jH
 ·obtain rfl:p=0:=kT
  have hb:BoxM c cv w w1 m (.slice aa m.args.length ac)∧_:=ha;have HC:=hid (hx.out w1 hb.2);go_wp2_with fail
  refine HC.out.mono ?_;rintro e w2 ⟨rfl,hs,hu⟩;go_wp2
  exact⟨_,rfl,rfl,trivial,hs,hb.1.2.2.trans hu⟩
 iterate 5
  ·exact jH
end Go.Proofs.YtimpddecdodddaaGreat
