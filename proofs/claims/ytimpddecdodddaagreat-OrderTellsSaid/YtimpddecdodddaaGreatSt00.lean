import Derived.Test.YtimpddecdodddaaGreatRows
import Derived.WalkKit
import Derived.WalkSpells
import Derived.WalkLawsBesides
import Derived.Lib.Hide
import Derived.Laws.AppendOwnNone
import Derived.Laws.EntriesVeiled
import Derived.RegionTactic
namespace Go.Proofs.YtimpddecdodddaaGreat
open Go.Proofs.Tryz Go.RowKit
theorem zD {P:Prop} (h:P:=by
 rw[List.eq_nil_iff_forall_not_mem];intro i hi;rw[mem_ready]at hi;obtain⟨h1,o,ho,_⟩:=hi;have hm:i<l.length:=by simpa using (Array.getElem?_eq_some_iff.1 ho).1
 have:i∈(List.range l.length).filter fun i=>!listed.getD i true:=by
  rw[List.mem_filter];exact⟨List.mem_range.2 hm,by simp[h1]⟩
 have:=List.length_pos_of_mem this;omega):P:=h
theorem yL {P:Prop} (h:P:=by
 have hg:e.on<listed.size:=by omega
 rw[Array.getD_eq_getD_getElem?,Array.getElem?_eq_getElem hg]at this ⊢;simpa using this):P:=h
theorem jx {P:Prop} (h:P:=by
 go_wp2
 go_ret
 exact Zk ((Since.refl _).alloc _) _ _ (by simp) rfl (by simp[maxLen]) rfl):P:=h
theorem jU {P:Prop} (h:P:=by
 unfold Addr.add;split
 ·rename_i h0;subst h0;simpa using this
 ·exact this):P:=h
theorem j2 {P:Prop} (h:P:=by
 go_ret
 exact⟨_,rfl,hv,((Since.refl _).alloc _).trans hs⟩):P:=h
theorem kr {P:Prop} (h:P:=by
 go_wp2
 go_ret
 exact ZP ((Since.refl _).alloc _)):P:=h
theorem kE {P:Prop} (h:P:=by rw[getD_set_ne _ (Ne.symm ha)];simp[ha]):P:=h
theorem kL {P:Prop} (h:P:=by
 rw[hr]at this
 cases this):P:=h
theorem kM {P:Prop} (h:P:=by subst ha;rw[XM];exact hv):P:=h
theorem kZ {P:Prop} (h:P:=by rw[show k+1+i=k+(i+1) from by omega];exact hall):P:=h
theorem zaq {P:Prop} (h:P:=by unfold maxLen;omega):P:=h
theorem zau {P:Prop} (h:P:=by simpa using hf):P:=h
theorem zav {P:Prop} (h:P:=by simpa using he):P:=h
theorem zaw {P:Prop} (h:P:=by simpa using h1):P:=h
theorem zax {P:Prop} (h:P:=by simpa using h2):P:=h
theorem zay {P:Prop} (h:P:=by simpa using h3):P:=h
theorem zaz {P:Prop} (h:P:=by simpa using hc):P:=h
theorem zaA {P:Prop} (h:P:=by simpa using ha):P:=h
theorem zaB {P:Prop} (h:P:=by simpa using ho):P:=h
theorem zaE {P:Prop} (h:P:=by simp;omega):P:=h
theorem zaJ {P:Prop} (h:P:=by decide):P:=h
theorem zaK {P:Prop} (h:P:=by omega):P:=h
theorem zaL {P:Prop} (h:P:=by simp):P:=h
theorem zN (a b:Int) (h:a≠b:=by omega):(a==b)=false:=beq_eq_false_iff_ne.2 h
theorem zH (p:Prop) (h:p):Hid p:=h
def Since (w0 w:World):Prop:=Below w0.heap.size w0 w
theorem Since.refl (w:World):Since w w:=Below.refl _ _
theorem Since.trans {a b c:World} (h:Since a b) (k:Since b c):Since a c:=Below.trans h (Below.mono k h.size)
theorem Since.size {a b:World} (h:Since a b):a.heap.size≤b.heap.size:=Below.size h
theorem Since.alloc {a b:World} (h:Since a b) (o:Obj):Since a (b.alloc o):=Below.alloc h h.size o
theorem Since.drew {a b:World} (h:Since a b):Since a b.drew:=Below.drew h
theorem Since.cell {a b:World} (h:Since a b) {p : Addr} (hp:p.block<a.heap.size):b.cell? p=a.cell? p:=Below.cell h hp
def Zy (k:IntKind) (w:World) (v:Value) (l:List Int):Prop:=
 (∃ a,v=.slice a 0 0∧l=[]) ∨
 ∃ b off cap,v=.slice (some ⟨b,off,none⟩) l.length cap∧l.length≤cap∧cap≤maxLen∧b<w.heap.size∧∀ (j:Nat) (n:Int),l[j]? = some n→w.cell? ⟨b,off+j,none⟩=some (.int k n)
abbrev Zd:=Zy .i64
theorem Zy.nil (k:IntKind) (w:World):Zy k w (.slice none 0 0) []:=.inl ⟨_,rfl,rfl⟩
theorem Zy.keep {k : IntKind} {w w':World} {v : Value} {l : List Int} (h:Zy k w v l) (s:Since w w'):Zy k w' v l:=by
 rcases h with h|⟨b,off,cap,h1,h2,h3,h4,h5⟩
 ·exact .inl h
 ·exact .inr ⟨b,off,cap,h1,h2,h3,Nat.lt_of_lt_of_le h4 s.size,fun j n hj=>by rw[s.cell h4];exact h5 j n hj⟩
theorem Zy.len {k : IntKind} {w : World} {v : Value} {l : List Int} (h:Zy k w v l):l.length≤maxLen:=by
 rcases h with ⟨_,_,h⟩|⟨_,_,_,_,h2,h3,_⟩
 ·rw[h];exact Nat.zero_le _
 ·omega
theorem Wc {k : IntKind} {w : World} {b : Nat} (l:List Int) (t:TypeId) (cap:Nat) (hc:l.length≤cap) (hm:cap≤maxLen) {cs:List Value} (hb:w.heap[b]? = some (.cells cs.toArray t (0,0)))
  (ha:∀ (j:Nat) (n:Int),l[j]? = some n→cs[j]? = some (Value.int k n)):Zy k w (.slice (some ⟨b,0,none⟩) l.length cap) l:=by
 refine .inr ⟨b,0,cap,rfl,hc,hm,(Array.getElem?_eq_some_iff.1 hb).1,fun j n hj=>?_⟩;simp[World.cell?,hb,ha j n hj]
theorem ZB {k : IntKind} {w : World} {base:Nat} {e : TypeId} {v : Value} {l : List Int} (h:w.ownsRow base e 1 v l.length (l.map (Value.int k))):Zy k w v l:=by
 obtain⟨_,⟨hv,hn⟩|⟨g,cap,cur,hv,_,hg,hc,hm,hs,ha⟩⟩:=h
 ·refine .inl ⟨_,hv,?_⟩;exact List.length_eq_zero_iff.1 hn
 ·subst hv;refine Wc (cs:=cur.toList) l e cap hc hm (by simpa using hg) fun j n hj=>?_
  have hb:j<l.length:=(List.getElem?_eq_some_iff.1 hj).1;have:=congrArg (fun x=>x[j]?) ha;simp only[Nat.mul_one,List.getElem?_map,hj,Option.map_some]at this
  rwa [List.getElem?_take_of_lt hb]at this
theorem W5 (w:World) (base:Nat) (e:TypeId) (k:IntKind):w.ownsRow base e 1 (.slice none 0 0) ([]:List Int).length (([]:List Int).map (Value.int k)):=⟨rfl,.inl ⟨rfl,rfl⟩⟩
theorem ZQ {P : Program} {w0 w:World} {ops:Array Oper} {rest:List Oper} {o : Oper} {a : Act} {Q : Exit→Act→World→Prop} (k:IntKind) (hh:o.guard=none) (s x:Operand) (t:TypeId)
  (ho:o.op=.call { callee:=.builtin .append,args:=#[s,x],argTypes:=#[t,t] })
  (e:TypeId) (z:Value) (bytes:Nat) (ht:P.underlying t=some (.slice e)) (hj:(P.info? e).map (fun i=>(i.zero,i.size,i.bytes))=some (some z,1,bytes)) (hz:z.cells.size=1) (hw:bytes≤8)
  (v xv:Value) (l1 l2:List Int) (hs:a.eval s=v) (hx:a.eval x=xv) (hd:w.ownsRow w0.heap.size e 1 v l1.length (l1.map (Value.int k))) (hy:Zy k w xv l2)
  (hf:l1.length+l2.length≤1000000) (ha:Since w0 w)
  (h:∀ v' w',w'.ownsRow w0.heap.size e 1 v' (l1++l2).length ((l1++l2).map (Value.int k))→Since w0 w'→wpList P ops Q rest (a.put o.dst v') w'):wpList P ops Q (o::rest) a w:=by
 obtain⟨i,hi,hp,hm,hl⟩:=info_parts hj;have hq:∀ (w':World),w.grownBy w' v.ownBlock→Since w0 w':=by
  intro w' hc;refine Below.grown ha hc ha.size ?_;intro r hr;obtain⟨_,⟨hv,_⟩|⟨g,cap,cur,hv,hg,_⟩⟩:=hd
  ·subst hv;cases hr
  ·subst hv;cases hr;exact hg
 rcases hy with ⟨ad,hv,rfl⟩|⟨b,off,cap,hv,hA,_,hb,hk⟩
 ·subst hv
  cases ad with
  | none =>
   refine wpList_append_own_none hh s x t ho w0.heap.size e i 1 ht hi v _ _ hs hd hx (h v w ?_ ha);simpa using hd
  | some ad =>
   refine wpList_append_own _ hh s x t ho w0.heap.size e i z 1 bytes ht hi hp hm hl hz zaJ v _ _ hs hd ad 0 0 [] hx rfl (fun j u hu=>by cases hu) (fun u hu=>by cases hu) (by unfold maxLen;simp at hf;omega) ?_ ha.size ?_
   ·have:(l1.length+0)*bytes≤1000000*8:=Nat.mul_le_mul zau hw;omega
   ·intro v' w' he hc _;exact h v' w' zav (hq w' hc)
 ·subst hv;refine wpList_append_own _ hh s x t ho w0.heap.size e i z 1 bytes ht hi hp hm hl hz zaJ v _ _ hs hd ⟨b,off,none⟩ l2.length cap (l2.map (Value.int k)) hx zaL ?_ ?_ zaq ?_ ha.size ?_
  ·intro j u hu;rw[List.getElem?_map]at hu;obtain⟨n,hn,rfl⟩:=Option.map_eq_some_iff.1 hu;have:=hk j n hn;exact jU
  ·intro u hu;obtain⟨n,_,rfl⟩:=List.mem_map.1 hu;rfl
  ·have:(l1.length+l2.length)*bytes≤1000000*8:=Nat.mul_le_mul hf hw;omega
  ·intro v' w' he hc _;exact h v' w' zav (hq w' hc)
structure Mach where
 op:Int
 d:Int
 e:Int
 a:Int
 b:Int
 c:Int
 imm:Int
 args:List Int
def mv (m:Mach) (av:Value):Value:=.agg #[.int .i64 m.op,.int .i64 m.d,.int .i64 m.e,.int .i64 m.a,.int .i64 m.b,.int .i64 m.c,.int .i32 m.imm,av]
def Yo (w:World) (l:List Int) (e:Ending) (w':World):Prop:=∃ v,e=.returned v∧Zd w' v l∧Since w w'
theorem ZG (w:World) (o:Obj):(w.alloc o).heap[w.heap.size]? = some o:=(MapKept.heap_alloc w o).1
theorem Zk {w0 w:World} (s:Since w0 w) {b n:Nat} (l:List Int) (t:TypeId) {cs:Array Value} (hb:b=w.heap.size) (hn:n=l.length) (hm:l.length≤maxLen) (ha:cs=(l.map (Value.int .i64)).toArray) :
  Yo w0 l (.returned (.slice (some ⟨b,0,none⟩) n n)) (w.alloc (.cells cs t)):=by
 subst hb;subst hn;subst ha;refine⟨_,rfl,Wc l t _ (Nat.le_refl _) hm (ZG _ _) ?_,s.alloc _⟩;intro j n hj;simp[hj]
theorem ZP {w0 w:World} (s:Since w0 w):Yo w0 [] (.returned (.slice none 0 0)) w:=⟨_,rfl,.nil _ _,s⟩
set_option linter.unusedVariables false
set_option maxHeartbeats 1000000
set_option maxRecDepth 100000
def Enters (f:Nat):Prop:=∀ (args:Array Value) (w:World),(callFunc f args).run prog w=.ok (.enter f args) w
def Wr (f:Nat) (g:Mach→List Int):Prop:=Enters f∧∀ (m:Mach) (av:Value) (w:World),Zd w av m.args→m.args.length≤1000→Calls prog f #[mv m av] w (Yo w (g m))
theorem WD:Wr 124 (fun m=>[]):=by
 refine⟨fun _ _=>by kernel_rfl,?_⟩;rintro⟨op,d,e,a,b,c,imm,args⟩ av w h _;unfold mv;go_enter func124,ntmps124
 exact kr
theorem k_d:Wr 125 (fun m=>[m.d]):=by
 refine⟨fun _ _=>by kernel_rfl,?_⟩;rintro⟨op,d,e,a,b,c,imm,args⟩ av w h _;unfold mv;go_enter func125,ntmps125
 exact jx
theorem k_a:Wr 126 (fun m=>[m.a]):=by
 refine⟨fun _ _=>by kernel_rfl,?_⟩;rintro⟨op,d,e,a,b,c,imm,args⟩ av w h _;unfold mv;go_enter func126,ntmps126
 exact jx
theorem Qs:Wr 127 (fun m=>[m.a,m.b]):=by
 refine⟨fun _ _=>by kernel_rfl,?_⟩;rintro⟨op,d,e,a,b,c,imm,args⟩ av w h _;unfold mv;go_enter func127,ntmps127
 exact jx
theorem Zec:Wr 128 (fun m=>[m.a,m.b,m.c]):=by
 refine⟨fun _ _=>by kernel_rfl,?_⟩;rintro⟨op,d,e,a,b,c,imm,args⟩ av w h _;unfold mv;go_enter func128,ntmps128
 exact jx
theorem Zfz:Wr 131 (fun m=>[m.d,m.e]):=by
 refine⟨fun _ _=>by kernel_rfl,?_⟩;rintro⟨op,d,e,a,b,c,imm,args⟩ av w h _;unfold mv;go_enter func131,ntmps131
 exact jx
theorem Tryz.info3:(prog.info? 3).map (fun i=>(i.zero,i.size,i.bytes))=some (some (.int .i64 0),1,8):=by kernel_rfl
theorem XO {w : World} {base b:Nat} (ha:b=w.heap.size) (hb:base≤w.heap.size) (e:TypeId) (k:IntKind) :
  (w.alloc (.cells #[] e)).ownsRow base e 1 (.slice (some ⟨b,0,none⟩) 0 0) ([]:List Int).length (([]:List Int).map (Value.int k)):=by
 subst ha;exact⟨rfl,.inr ⟨w.heap.size,0,#[],rfl,hb,ZG _ _,Nat.le_refl _,Nat.zero_le _,rfl,rfl⟩⟩
theorem Zdf (v:Value) (l:List Int) (w:World) (h:Zy .i64 w v l) (hl:l.length≤1000) :
  Calls prog 130 #[v] w (Yo w l):=by
 have h':=h;have he:=fun w a l c=>Lib.run_eql_slice_nil (P:=prog) w 22 _ a l c 0 0 underlying22
 rcases h with ⟨ad,rfl,rfl⟩|⟨b,off,cap,rfl,hf,hd,hb,hc⟩
 ·rcases ad with _|ad
  rotate_left
  ·go_enter func130,ntmps130
   go_wp2_with (at_builtin;refine ZQ (w0:=w) .i64 rfl _ _ 22 rfl 3 (.int .i64 0) 8 underlying22 Tryz.info3 rfl zaJ _ _ [] [] rfl rfl (XO rfl (Nat.le_refl _) _ _) (h'.keep ((Since.refl _).alloc _)) zaL ((Since.refl _).alloc _) ?_;intro v' w' ha hs)
   go_ret
   exact⟨_,rfl,ZB ha,hs⟩
  go_enter func130,ntmps130
  go_wp2
  go_ret
  exact ZP (Since.refl _)
 ·go_enter func130,ntmps130
  go_wp2_with (at_builtin;refine ZQ (w0:=w) .i64 rfl _ _ 22 rfl 3 (.int .i64 0) 8 underlying22 Tryz.info3 rfl zaJ _ _ [] l rfl rfl (XO rfl (Nat.le_refl _) _ _) (h'.keep ((Since.refl _).alloc _)) zaE ((Since.refl _).alloc _) ?_;intro v' w' ha hs)
  go_ret
  exact⟨_,rfl,ZB ha,hs⟩
theorem Zdk (w:World) (o o':Obj):({ w.alloc o with heap:=(w.alloc o).heap.setIfInBounds w.heap.size o' }:World)=w.alloc o':=by
 have:(w.heap.push o).setIfInBounds w.heap.size o'=w.heap.push o':=by
  apply Array.ext'
  simp[Array.toList_setIfInBounds,Array.toList_push]
 simp only[World.alloc];rw[this]
def Vt (n:Int):List MapEntry→Bool
 | []=>true
 | e::r=>match e.key with
  | .int .i64 m=>!(n==m)&&Vt n r
  | _=>false
def ZaM (n:Int):List MapEntry→Option Value
 | []=>none
 | e::r=>match e.key with
  | .int .i64 m=>if n==m then some e.val else ZaM n r
  | _=>none
theorem Q1 (n:Int):Vt n []=true:=Eq.trans (Eq.refl _) (Eq.refl true)
theorem KT (n m:Int) (v:Value) (b:Nat) (r:List MapEntry):Vt n ({ key:=.int .i64 m,val:=v,born:=b }::r)=(!(n==m)&&Vt n r):=Eq.trans (Eq.refl _) (Eq.refl _)
theorem WI (n:Int):∀ (l:List MapEntry) (i:Nat),Vt n l=true→Instr.findNow (.int .i64) (.int .i64 n) l i=some none
 | [],_,_=>rfl
 | e::r,i,h=>by
  unfold Vt at h
  split at h
  ·rename_i m hm
   simp at h
   have hb:(n==m)=false:=by simpa using h.1
   simp[Instr.findNow,hm,Instr.sameNow,hb,WI n r _ h.2]
  ·cases h
theorem Jw (n:Int) (v:Value):∀ (l:List MapEntry) (i:Nat),ZaM n l=some v→∃ j,Instr.findNow (.int .i64) (.int .i64 n) l i=some (some (j,v))
 | [],_,h=>by cases h
 | e::r,i,h=>by
  unfold ZaM at h
  split at h
  ·rename_i m hm
   by_cases hb:n=m
   ·subst hb;simp at h;exact⟨i,by simp[Instr.findNow,hm,Instr.sameNow,h]⟩
   ·rw[if_neg (by simpa using hb)]at h
    obtain⟨j,hj⟩:=Jw n v r (i+1) h
    have ha:(n==m)=false:=by simpa using hb
    exact⟨j,by simp[Instr.findNow,hm,Instr.sameNow,ha,hj]⟩
  ·cases h
theorem X2 {P : Program} {t K E:TypeId} (ht:P.underlying t=some (.map K E)) (hK:P.underlying K=some (.int .i64)) (w:World) (es:List MapEntry) (b c:Nat) (n:Int) (v:Value) (hs:b=w.heap.size) (hf:Vt n es=true) :
  (Instr.mapUpdate t (.map (some b)) (.int .i64 n) v).run P (w.alloc (.map es.toArray c))=.ok () (w.alloc (.map (es++[({ key:=.int .i64 n,val:=v,born:=c }:MapEntry)]).toArray (c+1))):=by
 subst hs;have hb:=(MapKept.heap_alloc w (.map es.toArray c)).1;have ha:MapKept.IsKey (.int .i64) (.int .i64 n):=rfl;have hc:Instr.findNow (.int .i64) (.int .i64 n) es.toArray.toList 0=some none:=WI n es 0 hf;simp only[Instr.mapUpdate,Sem.run_bind,run_underlying ht,Result.andThen,MapKept.run_getObj_map hb,MapKept.run_checkKey hK ha,MapKept.run_findKey hK hc,MapKept.run_setObj_map _ hb];rw[Zdk];simp
theorem JV {P : Program} {t K E:TypeId} (ht:P.underlying t=some (.map K E)) (hK:P.underlying K=some (.int .i64)) (w:World) (es:List MapEntry) (b c:Nat) (n:Int) (v:Value) (hs:b=w.heap.size) (hf:ZaM n es=some v) :
  (Instr.lookup t (.map (some b)) (.int .i64 n) true).run P (w.alloc (.map es.toArray c))=.ok (.tuple #[v,.bool true]) (w.alloc (.map es.toArray c)):=by
 subst hs;have hb:=(MapKept.heap_alloc w (.map es.toArray c)).1;have ha:MapKept.IsKey (.int .i64) (.int .i64 n):=rfl;obtain⟨j,hj⟩:=Jw n v es.toArray.toList 0 hf;simp[Instr.lookup,run_underlying ht,MapKept.run_getObj_map hb,MapKept.run_checkKey hK ha,MapKept.run_findKey hK hj,Result.andThen]
theorem Jf {P : Program} {t K E:TypeId} (ht:P.underlying t=some (.map K E)) (hK:P.underlying K=some (.int .i64)) (z:Value) (hz:∀ w:World,(zeroValue E).run P w=.ok z w) (w:World) (es:List MapEntry) (b c:Nat) (n:Int) (hs:b=w.heap.size) (hf:Vt n es=true) :
  (Instr.lookup t (.map (some b)) (.int .i64 n) true).run P (w.alloc (.map es.toArray c))=.ok (.tuple #[z,.bool false]) (w.alloc (.map es.toArray c)):=by
 subst hs;have hb:=(MapKept.heap_alloc w (.map es.toArray c)).1;have ha:MapKept.IsKey (.int .i64) (.int .i64 n):=rfl;have hc:Instr.findNow (.int .i64) (.int .i64 n) es.toArray.toList 0=some none:=WI n es 0 hf;simp[Instr.lookup,run_underlying ht,MapKept.run_getObj_map hb,MapKept.run_checkKey hK ha,MapKept.run_findKey hK hc,hz,Result.andThen]
theorem Ze6:Wr 129 (fun m=>m.args):=by
 refine⟨fun _ _=>by kernel_rfl,?_⟩;rintro⟨op,d,e,a,b,c,imm,args⟩ av w h hl;unfold mv;have h2:=h.keep ((Since.refl w).alloc (.cells #[.int .i64 op,.int .i64 d,.int .i64 e,.int .i64 a,.int .i64 b,.int .i64 c,.int .i32 imm,av] 36));go_enter func129,ntmps129
 go_wp2_with (go_at_call 130;refine (Zdf _ _ _ h2 hl).mono ?_;rintro e w1 ⟨v,rfl,hv,hs⟩)
 exact j2
def Zeb:List MapEntry:=[
 { key:=.int .i64 1,val:=.agg #[.func (.func 126) #[] #[],.func (.func 125) #[] #[]],born:=0 },
 { key:=.int .i64 2,val:=.agg #[.func (.func 127) #[] #[],.func (.func 127) #[] #[]],born:=1 },
 { key:=.int .i64 3,val:=.agg #[.func (.func 124) #[] #[],.func (.func 125) #[] #[]],born:=2 },
 { key:=.int .i64 4,val:=.agg #[.func (.func 124) #[] #[],.func (.func 125) #[] #[]],born:=3 },
 { key:=.int .i64 23,val:=.agg #[.func (.func 128) #[] #[],.func (.func 125) #[] #[]],born:=4 },
 { key:=.int .i64 24,val:=.agg #[.func (.func 126) #[] #[],.func (.func 125) #[] #[]],born:=5 },
 { key:=.int .i64 25,val:=.agg #[.func (.func 127) #[] #[],.func (.func 125) #[] #[]],born:=6 },
 { key:=.int .i64 26,val:=.agg #[.func (.func 127) #[] #[],.func (.func 124) #[] #[]],born:=7 },
 { key:=.int .i64 27,val:=.agg #[.func (.func 128) #[] #[],.func (.func 124) #[] #[]],born:=8 },
 { key:=.int .i64 28,val:=.agg #[.func (.func 129) #[] #[],.func (.func 125) #[] #[]],born:=9 },
 { key:=.int .i64 29,val:=.agg #[.func (.func 127) #[] #[],.func (.func 131) #[] #[]],born:=10 },
 { key:=.int .i64 30,val:=.agg #[.func (.func 124) #[] #[],.func (.func 125) #[] #[]],born:=11 },
 { key:=.int .i64 31,val:=.agg #[.func (.func 126) #[] #[],.func (.func 124) #[] #[]],born:=12 }]
theorem Zcp (w:World):(zeroValue 151).run prog w=.ok (.agg #[.nilFunc,.nilFunc]) w:=by kernel_rfl
def Ko (w:World) (x y:Nat) (e:Ending) (w':World):Prop:=e=.returned (.agg #[.func (.func x) #[] #[],.func (.func y) #[] #[]])∧Since w w'
attribute [local simp] Q1 KT
theorem Yc (op:Int) (x y:Nat) (w:World) (h:ZaM op Zeb=some (.agg #[.func (.func x) #[] #[],.func (.func y) #[] #[]])) :
  Calls prog 87 #[.int .i64 op] w (Ko w x y):=by
 have hb:=@run_makeMap prog;have ha:=@X2 prog _ _ _ underlying196 underlying3;have hc:=@JV prog _ _ _ underlying196 underlying3;unfold Zeb at h;go_enter func87,ntmps87
 go_wp2
 exact bodyPost_ret (v:=.agg #[.func (.func x) #[] #[],.func (.func y) #[] #[]]) (by simp[results,Tryz.results87,go_sem]) rfl ⟨rfl,(((Since.refl _).alloc _).alloc _).alloc _⟩
theorem Vd (op:Int) (x y:Nat) (w:World) (n1:(op==1)=false) (n2:(op==2)=false) (n3:(op==3)=false) (n4:(op==4)=false) (n23:(op==23)=false) (n24:(op==24)=false) (n25:(op==25)=false) (n26:(op==26)=false) (n27:(op==27)=false) (n28:(op==28)=false) (n29:(op==29)=false) (n30:(op==30)=false) (n31:(op==31)=false)
  (h:(x=127∧y=125∧5≤op∧op≤17)∨(x=126∧y=125∧¬ op≤17∧18≤op∧op≤22)∨(x=124∧y=124∧¬ 5≤op)∨(x=124∧y=124∧¬ op≤22)) :
  Calls prog 87 #[.int .i64 op] w (Ko w x y):=by
 have hb:=@run_makeMap prog;have ha:=@X2 prog _ _ _ underlying196 underlying3;have hc:=@Jf prog _ _ _ underlying196 underlying3 _ Zcp;rcases h with ⟨rfl,rfl,g1,g2⟩|⟨rfl,rfl,g0,g1,g2⟩|⟨rfl,rfl,g1⟩|⟨rfl,rfl,g1⟩;all_goals
  go_enter func87,ntmps87
  go_wp2
  exact bodyPost_ret (v:=.agg #[.func (.func _) #[] #[],.func (.func _) #[] #[]]) (by simp[results,Tryz.results87,go_sem]) rfl ⟨rfl,(((Since.refl _).alloc _).alloc _).alloc _⟩
def takes7 (m:Mach):List Int:=
 if m.op=1∨(18≤m.op∧m.op≤22)∨m.op=24∨m.op=31 then [m.a]
 else if m.op=2∨(5≤m.op∧m.op≤17)∨m.op=25∨m.op=26∨m.op=29 then [m.a,m.b]
 else if m.op=23∨m.op=27 then [m.a,m.b,m.c] else if m.op=28 then m.args else []
def makes7 (m:Mach):List Int:=
 if m.op=2 then [m.a,m.b] else if m.op=29 then [m.d,m.e] else if m.op=26∨m.op=27∨m.op=31∨m.op<1∨31<m.op then [] else [m.d]
def KindAt (f:Nat) (m:Mach) (l:List Int):Prop:=Enters f∧∀ (av:Value) (w:World),Zd w av m.args→m.args.length≤1000→Calls prog f #[mv m av] w (Yo w l)
theorem Wr.at {f : Nat} {g : Mach→List Int} (h:Wr f g) (m:Mach) {l : List Int} (e:g m=l):KindAt f m l:=⟨h.1,fun av w h1 h2=>by rw[←e];exact h.2 m av w h1 h2⟩
def Qg (m:Mach) (w:World) (e:Ending) (w':World):Prop:=∃ x y,e=.returned (.agg #[.func (.func x) #[] #[],.func (.func y) #[] #[]])∧KindAt x m (takes7 m)∧KindAt y m (makes7 m)∧Since w w'
theorem Yl {m : Mach} {w : World} {x y:Nat} (hx:KindAt x m (takes7 m)) (hy:KindAt y m (makes7 m)) (h:Calls prog 87 #[.int .i64 m.op] w (Ko w x y)) :
  Calls prog 87 #[.int .i64 m.op] w (Qg m w):=h.mono fun _ _ ⟨he,hs⟩=>⟨x,y,he,hx,hy,hs⟩
theorem KS (m:Mach) (w:World):Calls prog 87 #[.int .i64 m.op] w (Qg m w):=by
 by_cases h1:m.op=1
 ·exact Yl (k_a.at m (by simp[takes7,h1])) (k_d.at m (by simp[makes7,h1])) (Yc _ _ _ w (by rw[h1];rfl))
 by_cases h2:m.op=2
 ·exact Yl (Qs.at m (by simp[takes7,h2])) (Qs.at m (by simp[makes7,h2])) (Yc _ _ _ w (by rw[h2];rfl))
 by_cases h3:m.op=3
 ·exact Yl (WD.at m (by simp[takes7,h3])) (k_d.at m (by simp[makes7,h3])) (Yc _ _ _ w (by rw[h3];rfl))
 by_cases h4:m.op=4
 ·exact Yl (WD.at m (by simp[takes7,h4])) (k_d.at m (by simp[makes7,h4])) (Yc _ _ _ w (by rw[h4];rfl))
 by_cases hi:m.op=23
 ·exact Yl (Zec.at m (by simp[takes7,hi])) (k_d.at m (by simp[makes7,hi])) (Yc _ _ _ w (by rw[hi];rfl))
 by_cases hh:m.op=24
 ·exact Yl (k_a.at m (by simp[takes7,hh])) (k_d.at m (by simp[makes7,hh])) (Yc _ _ _ w (by rw[hh];rfl))
 by_cases hg:m.op=25
 ·exact Yl (Qs.at m (by simp[takes7,hg])) (k_d.at m (by simp[makes7,hg])) (Yc _ _ _ w (by rw[hg];rfl))
 by_cases hf:m.op=26
 ·exact Yl (Qs.at m (by simp[takes7,hf])) (WD.at m (by simp[makes7,hf])) (Yc _ _ _ w (by rw[hf];rfl))
 by_cases he:m.op=27
 ·exact Yl (Zec.at m (by simp[takes7,he])) (WD.at m (by simp[makes7,he])) (Yc _ _ _ w (by rw[he];rfl))
 by_cases hd:m.op=28
 ·exact Yl (Ze6.at m (by simp[takes7,hd])) (k_d.at m (by simp[makes7,hd])) (Yc _ _ _ w (by rw[hd];rfl))
 by_cases hc:m.op=29
 ·exact Yl (Qs.at m (by simp[takes7,hc])) (Zfz.at m (by simp[makes7,hc])) (Yc _ _ _ w (by rw[hc];rfl))
 by_cases hb:m.op=30
 ·exact Yl (WD.at m (by simp[takes7,hb])) (k_d.at m (by simp[makes7,hb])) (Yc _ _ _ w (by rw[hb];rfl))
 by_cases ha:m.op=31
 ·exact Yl (k_a.at m (by simp[takes7,ha])) (WD.at m (by simp[makes7,ha])) (Yc _ _ _ w (by rw[ha];rfl))
 by_cases g1:5≤m.op∧m.op≤17
 ·exact Yl (Qs.at m (by unfold takes7;rw[if_neg zaK,if_pos zaK])) (k_d.at m (by unfold makes7;rw[if_neg zaK,if_neg zaK,if_neg zaK])) (Vd _ _ _ w zaw zax zay (by simpa using h4) (by simpa using hi) (by simpa using hh) (by simpa using hg) zau zav (by simpa using hd) zaz (by simpa using hb) zaA (.inl ⟨rfl,rfl,g1⟩))
 by_cases g2:18≤m.op∧m.op≤22
 ·exact Yl (k_a.at m (by unfold takes7;rw[if_pos zaK])) (k_d.at m (by unfold makes7;rw[if_neg zaK,if_neg zaK,if_neg zaK])) (Vd _ _ _ w zaw zax zay (by simpa using h4) (by simpa using hi) (by simpa using hh) (by simpa using hg) zau zav (by simpa using hd) zaz (by simpa using hb) zaA (.inr (.inl ⟨rfl,rfl,zaK,g2⟩)))
 exact Yl (WD.at m (by unfold takes7;rw[if_neg zaK,if_neg zaK,if_neg zaK,if_neg zaK])) (WD.at m (by unfold makes7;rw[if_neg zaK,if_neg zaK,if_pos zaK])) (Vd _ _ _ w zaw zax zay (by simpa using h4) (by simpa using hi) (by simpa using hh) (by simpa using hg) zau zav (by simpa using hd) zaz (by simpa using hb) zaA (by by_cases h:5≤m.op;exact .inr (.inr (.inr ⟨rfl,rfl,zaK⟩));exact .inr (.inr (.inl ⟨rfl,rfl,h⟩))))
def putAll:List Oper→Nat→(Nat→Value)→Act→Act
 | [],_,_,a=>a
 | o::r,k,vs,a=>putAll r (k+1) vs (a.put o.dst (vs k))
def ZU:List Oper→Bool
 | []=>true
 | o::r=>(r.all fun p=>match o.dst,p.dst with | some d,some e=>d != e | _,_=>true)&&ZU r
theorem K6 {o : Oper} {r : List Oper} (h:ZU (o::r)=true):(∀ p∈r,∀ d,o.dst=some d→p.dst≠some d)∧ZU r=true:=by
 unfold ZU at h;rw[Bool.and_eq_true,List.all_eq_true]at h;refine⟨fun p hp d hd hc=>?_,h.2⟩;have:=h.1 p hp;rw[hd,hc]at this;simp at this
theorem KE (dst:Option Tmp) (v:Value):∀ (l:List Oper) (k:Nat) (vs:Nat→Value) (a:Act),(∀ p∈l,∀ d,dst=some d→p.dst≠some d)→(putAll l k vs a).put dst v=putAll l k vs (a.put dst v)
 | [],_,_,_,_=>rfl
 | o::r,k,vs,a,h=>by
  show (putAll r (k+1) vs (a.put o.dst (vs k))).put dst v=putAll r (k+1) vs ((a.put dst v).put o.dst (vs k))
  rw[KE dst v r (k+1) vs _ (fun p hp=>h p (List.mem_cons_of_mem _ hp)),Act.put_comm a v (vs k) (h o List.mem_cons_self)]
theorem Ji:∀ (l:List Oper) (k:Nat) (vs vs':Nat→Value) (a:Act),(∀ j,k≤j→vs j=vs' j)→putAll l k vs a=putAll l k vs' a
 | [],_,_,_,_,_=>rfl
 | o::r,k,vs,vs',a,h=>by
  show putAll r (k+1) vs _=putAll r (k+1) vs' _
  rw[h k (Nat.le_refl _)]
  exact Ji r (k+1) vs vs' _ fun j hj=>h j zaK
theorem Zel (a:Act) (x:Option Tmp) (v u:Value):(a.put x v).put x u=a.put x u:=by
 cases x with
 | none=>rfl
 | some d=>simp[Act.put,Array.setIfInBounds_setIfInBounds]
def upd (vs:Nat→Value) (i:Nat) (v:Value):Nat→Value:=fun j=>if j=i then v else vs j
theorem XM (vs:Nat→Value) (i:Nat) (v:Value):upd vs i v i=v:=if_pos rfl
theorem YS (vs:Nat→Value) {i j:Nat} (v:Value) (h:j≠i):upd vs i v j=vs j:=if_neg h
theorem Xe (v:Value):∀ (l:List Oper) (k:Nat) (vs:Nat→Value) (a:Act) (i:Nat) (o:Oper),l[i]? = some o→ZU l=true→putAll l k (upd vs (k+i) v) a=(putAll l k vs a).put o.dst v
 | [],_,_,_,_,_,h,_=>by cases h
 | p::r,k,vs,a,0,o,h,hd=>by
  obtain rfl:p=o:=by simpa using h
  show putAll r (k+1) (upd vs (k+0) v) (a.put p.dst (upd vs (k+0) v k))=(putAll r (k+1) vs (a.put p.dst (vs k))).put p.dst v
  rw[KE p.dst v r (k+1) vs _ (K6 hd).1,Zel]
  simp only[Nat.add_zero,XM]
  exact Ji r (k+1) _ _ _ fun j hj=>YS _ _ zaK
 | p::r,k,vs,a,i+1,o,h,hd=>by
  have hr:r[i]? = some o:=by simpa using h
  show putAll r (k+1) (upd vs (k+(i+1)) v) (a.put p.dst (upd vs (k+(i+1)) v k))=(putAll r (k+1) vs (a.put p.dst (vs k))).put o.dst v
  rw[YS _ _ (by omega:k≠k+(i+1)),show k+(i+1)=k+1+i from by omega]
  exact Xe v r (k+1) vs _ i o hr (K6 hd).2
theorem Zz (a:Act) (d:Tmp):a.put (some d) (a.tmps.getD d undef)=a:=by
 have:a.tmps.setIfInBounds d (a.tmps.getD d undef)=a.tmps:=by
  apply Array.ext_getElem?
  intro j;rw[Array.getElem?_setIfInBounds];by_cases h:d=j
  ·subst h;by_cases hd:d<a.tmps.size
   ·simp[hd]
   ·simp[hd]
  ·simp[h]
 simp only[Act.put,this]
def Yj (l:List Oper) (a:Act):Nat→Value:=fun i=>match (l[i]?).bind (·.dst) with | some d=>a.tmps.getD d undef | none=>undef
theorem Y1 (old:Nat→Value) (a:Act):∀ (l:List Oper) (k:Nat),(∀ (i:Nat) (o:Oper) (d:Tmp),l[i]? = some o→o.dst=some d→old (k+i)=a.tmps.getD d undef)→putAll l k old a=a
 | [],_,_=>rfl
 | o::r,k,h=>by
  show putAll r (k+1) old (a.put o.dst (old k))=a
  have e:a.put o.dst (old k)=a:=by
   cases ho:o.dst with
   | none=>rfl
   | some d=>rw[show old k=a.tmps.getD d undef from h 0 o d rfl ho];exact Zz a d
  rw[e];exact Y1 old a r (k+1) fun i p d hi hd=>by rw[show k+1+i=k+(i+1) from by omega];exact h (i+1) p d (by simpa using hi) hd
def ZW:List Oper→Nat→Bool
 | [],_=>true
 | o::r,k=>(o.after.all fun e=>!Region.binds .any e||decide (e.on<k))&&ZW r (k+1)
theorem Z4:∀ (l:List Oper) (k:Nat),ZW l k=true→∀ (i:Nat) (o:Oper),l[i]? = some o→∀ e∈o.after,Region.binds .any e=true→e.on<k+i
 | [],_,_,_,_,h=>by cases h
 | p::r,k,hb,i,o,h=>by
  unfold ZW at hb
  rw[Bool.and_eq_true]at hb
  cases i with
  | zero =>
   obtain rfl:p=o:=by simpa using h
   intro e he ha
   have:=(Array.all_eq_true_iff_forall_mem.1 hb.1) e he
   rw[ha]at this
   simpa using this
  | succ i =>
   intro e he ha
   have:=Z4 r (k+1) hb.2 i o (by simpa using h) e he ha
   omega
def Zp (F:Nat→Value→World→Prop) (vs:Nat→Value) (w:World):List Edge→Prop
 | []=>True
 | e::r=>(match e.ground with | .textOnly _=>True | .gcOnly _=>True | _=>F e.on (vs e.on) w)∧Zp F vs w r
theorem Wd (F:Nat→Value→World→Prop) (vs:Nat→Value) (w:World):∀ (l:List Edge),(∀ e∈l,Region.binds .any e=true→F e.on (vs e.on) w)→Zp F vs w l
 | [],_=>trivial
 | e::r,h=>by
  refine⟨?_,Wd F vs w r fun x hx=>h x (List.mem_cons_of_mem _ hx)⟩
  have:=h e List.mem_cons_self
  unfold Region.binds at this
  revert this
  cases e.ground<;>intro this<;>first | trivial | exact this rfl
def Zi (F:Nat→Value→World→Prop) (vs:Nat→Value) (w:World):Nat→Nat→Prop
 | _,0=>True
 | k,n+1=>F k (vs k) w∧Zi F vs w (k+1) n
theorem Xk (F:Nat→Value→World→Prop) (vs:Nat→Value) (w:World):∀ (n k:Nat),(∀ i,k≤i→i<k+n→F i (vs i) w)→Zi F vs w k n
 | 0,_,_=>trivial
 | n+1,k,h=>⟨h k (Nat.le_refl _) zaK,Xk F vs w n (k+1) fun i h1 h2=>h i zaK zaK⟩
def Zfl (F:Nat→Value→World→Prop) (i:Nat) (dst:Option Tmp) (a:Act) (w:World) (a':Act) (w':World):Prop:=∃ v,a'=a.put dst v∧F i v w'∧Since w w'
def ZfD (Q:Exit→Act→World→Prop) (F:Nat→Value→World→Prop) (i:Nat) (dst:Option Tmp) (a:Act) (w:World):Exit→Act→World→Prop
 | .normal,a',w'=>Zfl F i dst a w a' w'
 | e,a',w'=>Q e a' w'
theorem Oper.wp_turn {P : Program} {o : Oper} {a : Act} {w : World} {K : Act→World→Prop} {Q Q':Exit→Act→World→Prop} (h1:∀ c a w,Q' (.panic c) a w→Q (.panic c) a w) (h2:LetsOut Q'→LetsOut Q)
  (hh:o.wp P a w K Q'):o.wp P a w K Q:=by
 unfold Oper.wp at *;generalize (execOp a.eval o).run P w=r at *
 cases r with
 | ok n w' =>
  cases n<;>simp only[Oper.upon]at hh ⊢ <;>
   first
    | exact hh
    | exact Calls.mono hh (fun e w'' he=>by cases e<;>first | exact he | exact h1 _ _ _ he | exact h2 he)
 | halt x w'=>cases x<;>simp only[Oper.upon]at hh ⊢<;>first | exact hh | exact h1 _ _ _ hh
def JB (P:Program) (all:Array Oper) (Q:Exit→Act→World→Prop) (F:Nat→Value→World→Prop) (a0:Act) (w0:World):List Oper→Nat→Prop
 | [],_=>True
 | o::r,k=>(∀ (vs:Nat→Value) (w:World),Since w0 w→Zp F vs w o.after.toList →
   wpList P all (ZfD Q F k o.dst (putAll all.toList 0 vs a0) w) [o] (putAll all.toList 0 vs a0) w)∧JB P all Q F a0 w0 r (k+1)
theorem Zar {P : Program} {all:Array Oper} {Q : Exit→Act→World→Prop} {F : Nat→Value→World→Prop} {a0:Act} {w0:World}:∀ (l:List Oper) (k:Nat),JB P all Q F a0 w0 l k→∀ (i:Nat) (o:Oper),l[i]? = some o→all[k+i]? = some o →
  ∀ (vs:Nat→Value) (w:World),Since w0 w→Zp F vs w o.after.toList→∀ K:Act→World→Prop,(∀ a' w',Zfl F (k+i) o.dst (putAll all.toList 0 vs a0) w a' w'→K a' w') →
   wpOp P all Q (k+i) K (putAll all.toList 0 vs a0) w
 | [],_,_,_,_,h,_=>by cases h
 | p::r,k,h,0,o,ho,hall=>by
  obtain rfl:p=o:=by simpa using ho
  intro vs w hw hk K hK
  have:=h.1 vs w hw hk
  unfold wpOp
  rw[hall]
  simp only[wpList]at this
  show if _ then _ else _
  split
  ·rename_i hwant
   rw[if_pos hwant]at this
   rcases this with this|⟨h1,h2⟩
   ·exact .inl (Oper.wp_turn (fun _ _ _ h=>h) (fun h=>h) (Oper.wp_mono (fun a' w' h=>hK a' w' h) this))
   ·exact .inr ⟨h1,h2⟩
  ·rename_i hwant
   rw[if_neg hwant]at this
   exact hK _ _ this
 | p::r,k,h,i+1,o,ho,hall=>by
  have:=Zar r (k+1) h.2 i o zaB kZ
  rw[show k+1+i=k+(i+1) from by omega]at this
  exact this
section
variable {P : Program} {Q : Exit→Act→World→Prop} {l : List Oper} {F : Nat→Value→World→Prop} {a0:Act} {w0:World}
theorem Zdj (hF:∀ i v w w',F i v w→Since w w'→F i v w') (hd:ZU l=true) (hb:ZW l 0=true)
  (hs:JB P l.toArray Q F a0 w0 l 0)
  (he:∀ vs w,Since w0 w→Zi F vs w 0 l.length→Q .normal (putAll l 0 vs a0) w) :
  ∀ (fuel:Nat) (listed:Array Bool) (vs:Nat→Value) (w:World),listed.size=l.length→((List.range l.length).filter fun i=>!listed.getD i true).length≤fuel→Since w0 w →
   (∀ i,i<l.length→listed.getD i true=true→F i (vs i) w)→wpAny P .any l.toArray Q fuel listed (putAll l 0 vs a0) w:=by
 have hq:∀ (listed:Array Bool) (vs:Nat→Value) (w:World),listed.size=l.length→Region.ready .any l.toArray listed=[]→Since w0 w →
   (∀ i,i<l.length→listed.getD i true=true→F i (vs i) w)→Q .normal (putAll l 0 vs a0) w:=by
  intro listed vs w hc hr hw hk;refine he vs w hw (Xk F vs w _ 0 fun i _ hi=>hk i zaK ?_)
  have all:∀ (n i:Nat),i<n→i<l.length→listed.getD i true=true:=by
   intro n;induction n with
   | zero=>intro i h;omega
   | succ n ih =>
    intro i h1 h2
    cases hl:listed.getD i true with
    | true=>rfl
    | false =>
     exfalso
     have:i∈Region.ready .any l.toArray listed:=by
      rw[mem_ready];have ho:l[i]? = some l[i]:=List.getElem?_eq_getElem h2;refine⟨hl,l[i],by simp,fun e hu hD=>?_⟩;have hm:=Z4 l 0 hb i l[i] ho e hu hD;have:=ih e.on zaK zaK;exact yL
     exact kL
  exact all (i+1) i zaK zaK
 intro fuel;induction fuel with
 | zero =>
  intro listed vs w hc hn hw hk;have hr:Region.ready .any l.toArray listed=[]:=by
   exact zD
  exact⟨hr,hq listed vs w hc hr hw hk⟩
 | succ fuel ih =>
  intro listed vs w hc hn hw hk;refine⟨fun hr=>hq listed vs w hc hr hw hk,fun i hi=>?_⟩;rw[mem_ready]at hi;obtain⟨h1,o,ho,hA⟩:=hi;have hf:l[i]? = some o:=by simpa using ho
  have hm:i<l.length:=(List.getElem?_eq_some_iff.1 hf).1;have hx:Zp F vs w o.after.toList:=by
   refine Wd F vs w _ fun e hu hp=>?_
   have ht:e∈o.after:=by simpa using hu
   have hG:=Z4 l 0 hb i o hf e ht hp;have hC:e.on<l.length:=zaK
   refine hk e.on hC ?_;have:=hA e ht hp;exact yL
  have hh:=Zar l 0 hs i o hf zau vs w hw hx;rw[Nat.zero_add]at hh;refine hh _ fun a' w' ⟨v,hE,hv,hy⟩=>?_
  subst hE;have e:=Xe v l 0 vs a0 i o hf hd;rw[Nat.zero_add]at e;rw[show l.toArray.toList=l from rfl,←e];refine ih (listed.setIfInBounds i true) (upd vs i v) w' zaz ?_ (hw.trans hy) ?_
  ·have e2:((List.range l.length).filter fun j=>!(listed.setIfInBounds i true).getD j true)=((List.range l.length).filter fun j=>!listed.getD j true).filter fun j=>j != i:=by
    rw[List.filter_filter];refine List.filter_congr fun j hj=>?_
    by_cases ha:j=i
    ·subst ha;have hg:j<listed.size:=zaK
     simp[Array.getD_eq_getD_getElem?,hg]
    ·exact kE
   rw[e2];have hB:i∈(List.range l.length).filter fun j=>!listed.getD j true:=by
    rw[List.mem_filter];exact⟨List.mem_range.2 hm,by simp[h1]⟩
   have:=(List.length_filter_lt_length_iff_exists (p:=fun j=>j != i) (l:=(List.range l.length).filter fun j=>!listed.getD j true)).2 ⟨i,hB,by simp⟩
   omega
  ·intro j hj hz;by_cases ha:j=i
   ·exact kM
   ·rw[YS _ _ ha];rw[getD_set_ne _ (Ne.symm ha)]at hz;exact hF _ _ _ _ (hk j hj hz) hy
theorem Kq {id:Nat} (hm:P.follows .mixedOrders=true) (hd:ZU l=true) (hb:ZW l 0=true) (F:Nat→Value→World→Prop) (hF:∀ i v w w',F i v w→Since w w'→F i v w')
  (hs:JB P l.toArray Q F a0 w0 l 0)
  (he:∀ vs w,Since w0 w→Zi F vs w 0 l.length→Q .normal (putAll l 0 vs a0) w):(Code.region id l.toArray true).wp P Q a0 w0:=by
 refine wp_region_any hm ?_;have e:=Y1 (Yj l a0) a0 l 0 (fun i o d hi ha=>by simp[Yj,hi,ha]);have h:=Zdj hF hd hb hs he l.length (Array.replicate l.length false) (Yj l a0) { w0 with drawn:=w0.drawn+1 } zaL (Nat.le_trans (List.length_filter_le _ _) zaL) (Since.refl w0).drew
  (fun i hi hl=>by simp[Array.getD_eq_getD_getElem?,hi]at hl)
 rw[e]at h;simpa using h
end
def Zj:List (Value→World→Prop)→Nat→Value→World→Prop
 | [],_=>fun _ _=>True
 | f::_,0=>f
 | _::r,i+1=>Zj r i
def ZH (f:Value→World→Prop):Prop:=∀ v w w',f v w→Since w w'→f v w'
def Wm:List (Value→World→Prop)→Prop
 | []=>True
 | f::r=>ZH f∧Wm r
theorem X8:∀ (l:List (Value→World→Prop)),Wm l→∀ i v w w',Zj l i v w→Since w w'→Zj l i v w'
 | [],_,_,_,_,_,_,_=>trivial
 | _::_,h,0,v,w,w',hv,hs=>h.1 v w w' hv hs
 | _::r,h,i+1,v,w,w',hv,hs=>X8 r h.2 i v w w' hv hs
def Is (x:Value) (v:Value) (_:World):Prop:=v=x
def Any (_:Value) (_:World):Prop:=True
def Zo (k:IntKind) (l:List Int) (v:Value) (w:World):Prop:=Zy k w v l
theorem Is.stable (x:Value):ZH (Is x):=fun _ _ _ h _=>h
theorem Any.stable:ZH Any:=fun _ _ _ h _=>h
theorem Zo.stable (k:IntKind) (l:List Int):ZH (Zo k l):=fun _ _ _ h hs=>Zy.keep h hs
theorem Zu {P : Program} {Q : Exit→Act→World→Prop} {l : List Oper} {a0:Act} {w0:World} {id:Nat} (hm:P.follows .mixedOrders=true) (hd:ZU l=true) (hb:ZW l 0=true) (Fs:List (Value→World→Prop)) (hF:Wm Fs)
  (hs:JB P l.toArray Q (Zj Fs) a0 w0 l 0)
  (he:∀ vs w,Since w0 w→Zi (Zj Fs) vs w 0 l.length→Q .normal (putAll l 0 vs a0) w):(Code.region id l.toArray true).wp P Q a0 w0:=
 Kq hm hd hb (Zj Fs) (X8 Fs hF) hs he
section
variable {α:Type}
inductive TE (dep:α→α→Bool):List α→List α→Prop
 | refl (l:List α):TE dep l l
 | swap (u v:List α) (x y:α):dep x y=false→dep y x=false→TE dep (u++x::y::v) (u++y::x::v)
 | trans {a b c:List α}:TE dep a b→TE dep b c→TE dep a c
variable {dep:α→α→Bool} {l m l':List α} {x y:α}
theorem TE.symm (h:TE dep l m):TE dep m l:=by
 induction h with
 | refl l=>exact .refl l
 | swap u v x y h1 h2=>exact .swap u v y x h2 h1
 | trans _ _ i1 i2=>exact .trans i2 i1
theorem TE.cons (z:α) (h:TE dep l m):TE dep (z::l) (z::m):=by
 induction h with
 | refl l=>exact .refl _
 | swap u v x y h1 h2=>exact .swap (z::u) v x y h1 h2
 | trans _ _ i1 i2=>exact .trans i1 i2
theorem TE.app (u:List α) (h:TE dep l m):TE dep (u++l) (u++m):=by
 induction u with
 | nil=>exact h
 | cons z u ih=>exact ih.cons z
theorem TE.len (h:TE dep l m):l.length=m.length:=by
 induction h with
 | refl l=>rfl
 | swap u v x y h1 h2=>simp
 | trans _ _ i1 i2=>exact i1.trans i2
theorem TE.mem (h:TE dep l m):∀ z,z∈l↔z∈m:=by
 induction h with
 | refl l=>intro z;exact Iff.rfl
 | swap u v x y h1 h2 =>
  intro z;simp only[List.mem_append,List.mem_cons];constructor;iterate 2
   ·rintro (h|h|h|h)
    ·exact .inl h
    ·exact .inr (.inr (.inl h))
    ·exact .inr (.inl h)
    ·exact .inr (.inr (.inr h))
 | trans _ _ i1 i2=>intro z;exact (i1 z).trans (i2 z)
def OTE (dep:α→α→Bool):Option (List α)→Option (List α)→Prop
 | none,none=>True
 | some a,some b=>TE dep a b
 | _,_=>False
theorem OTE.refl (o:Option (List α)):OTE dep o o:=by
 cases o
 ·trivial
 ·exact TE.refl _
theorem OTE.map (z:α) {o p:Option (List α)} (h:OTE dep o p):OTE dep (o.map (z::·)) (p.map (z::·)):=by
 cases o<;>cases p
 ·trivial
 ·exact h
 ·exact h
 ·exact TE.cons z h
theorem OTE.trans {o p q:Option (List α)} (h:OTE dep o p) (k:OTE dep p q):OTE dep o q:=by
 cases o<;>cases p<;>cases q
 all_goals first | trivial | exact h.elim | exact k.elim | exact TE.trans h k
theorem TE.front (hs:∀ a b,dep a b=dep b a):∀ u:List α,(∀ z∈u,dep z x=false)→TE dep (u++x::l) (x::(u++l))
 | [],_=>.refl _
 | z::u,h=>((TE.front hs u fun y hy=>h y (List.mem_cons_of_mem _ hy)).cons z).trans (.swap [] (u++l) z x (h z List.mem_cons_self) ((hs x z).trans (h z List.mem_cons_self)))
end
section
variable {α:Type} [DecidableEq α]
def YQ (dep:α→α→Bool):List α→α→Option (List α)
 | [],_=>none
 | y::r,x=>if x=y then some r else if dep y x then none else (YQ dep r x).map (y::·)
variable {dep:α→α→Bool} {l m l':List α} {x y:α}
def okT (dep:α→α→Bool):List α→List α→Bool
 | l,[]=>l.isEmpty
 | l,x::m=>match YQ dep l x with
  | none=>false
  | some l'=>okT dep l' m
theorem Zaq (hs:∀ a b,dep a b=dep b a):∀ {l l':List α},YQ dep l x=some l'→TE dep l (x::l')
 | [],_,h=>by cases h
 | y::r,l',h=>by
  unfold YQ at h
  split at h
  ·rename_i e
   rw[e,←Option.some.inj h]
   exact .refl _
  ·split at h
   ·cases h
   ·rename_i h1 h2
    obtain⟨r',hr,rfl⟩:=Option.map_eq_some_iff.1 h
    have h3:dep y x=false:=by simpa using h2
    exact ((Zaq hs hr).cons y).trans (.swap [] r' y x h3 ((hs x y).trans h3))
theorem ZcN (hs:∀ a b,dep a b=dep b a):∀ {m l:List α},okT dep l m=true→TE dep l m
 | [],l,h=>by
  unfold okT at h
  rw[List.isEmpty_iff.1 h]
  exact .refl _
 | x::m,l,h=>by
  unfold okT at h
  split at h
  ·cases h
  ·rename_i l' hl
   exact (Zaq hs hl).trans ((ZcN hs h).cons x)
theorem Ku (a b:α) (v:List α) (h1:dep a b=false) (h2:dep b a=false):∀ u:List α,OTE dep (YQ dep (u++a::b::v) x) (YQ dep (u++b::a::v) x)
 | []=>by
  simp only[List.nil_append,YQ]
  by_cases ha:x=a
  ·subst ha
   by_cases hb:x=b
   ·subst hb
    simp only[if_true]
    exact TE.refl _
   ·simp only[if_true,if_neg hb,h2,Bool.false_eq_true,if_false,Option.map_some]
    exact TE.refl _
  ·by_cases hb:x=b
   ·subst hb
    simp only[if_true,if_neg ha,h1,Bool.false_eq_true,if_false,Option.map_some]
    exact TE.refl _
   ·simp only[if_neg ha,if_neg hb]
    by_cases d1:dep a x=true
    ·simp only[d1,if_true]
     by_cases d2:dep b x=true
     ·simp only[d2,if_true];trivial
     ·simp only[d2,Bool.false_eq_true,if_false,Option.map_none];trivial
    ·by_cases d2:dep b x=true
     ·simp only[d1,d2,Bool.false_eq_true,if_false,if_true,Option.map_none];trivial
     ·simp only[d1,d2,Bool.false_eq_true,if_false]
      cases YQ dep v x with
      | none=>trivial
      | some r=>exact TE.swap [] r a b h1 h2
 | c::u=>by
  simp only[List.cons_append,YQ]
  split
  ·exact TE.swap u v a b h1 h2
  ·split
   ·trivial
   ·exact (Ku a b v h1 h2 u).map c
theorem Zcu (h:TE dep l m):OTE dep (YQ dep l x) (YQ dep m x):=by
 induction h with
 | refl l=>exact .refl _
 | swap u v a b h1 h2=>exact Ku a b v h1 h2 u
 | trans _ _ i1 i2=>exact i1.trans i2
theorem Zbt:∀ {m l l':List α},TE dep l l'→okT dep l m=okT dep l' m
 | [],l,l',h=>by
  have:=h.len
  unfold okT
  cases l<;>cases l'<;>simp_all
 | x::m,l,l',h=>by
  have h1:=Zcu (x:=x) h
  unfold okT
  cases e1:YQ dep l x<;>cases e2:YQ dep l' x<;>rw[e1,e2]at h1<;>first | rfl | exact h1.elim | exact Zbt h1
theorem ZaB:∀ l:List α,okT dep l l=true
 | []=>rfl
 | x::l=>by
  unfold okT YQ
  rw[if_pos rfl]
  exact ZaB l
theorem Zen (hs:∀ a b,dep a b=dep b a):okT dep l m=true↔TE dep l m:=
 ⟨ZcN hs,fun h=>by rw[Zbt h];exact ZaB m⟩
theorem TE.two (hs:∀ a b,dep a b=dep b a) (hd:dep x y=true) (h:TE dep l m):l.filter (fun z=>decide (z=x)||decide (z=y))=m.filter (fun z=>decide (z=x)||decide (z=y)):=by
 induction h with
 | refl l=>rfl
 | swap u v a b h1 h2 =>
  simp only[List.filter_append,List.append_cancel_left_eq];by_cases e:a=b
  ·subst e;rfl
  ·simp only[List.filter_cons];by_cases pa:(decide (a=x)||decide (a=y))=true
   ·by_cases pb:(decide (b=x)||decide (b=y))=true
    ·exfalso
     simp only[Bool.or_eq_true,decide_eq_true_eq]at pa pb;rcases pa with rfl|rfl<;>rcases pb with rfl|rfl
     ·exact e rfl
     ·rw[hd]at h1;cases h1
     ·rw[hd]at h2;cases h2
     ·exact e rfl
    ·simp only[pa,pb,if_true,Bool.false_eq_true,if_false]
   ·simp only[pa,Bool.false_eq_true,if_false]
 | trans _ _ i1 i2=>exact i1.trans i2
theorem TE.beside (hs:∀ a b,dep a b=dep b a) {u v:List α} (hd:dep x y=true) (h:TE dep (u++x::y::v) (u++y::x::v)):x=y:=by
 have h1:=h.two hs hd;simp only[List.filter_append,List.append_cancel_left_eq,List.filter_cons,decide_true,Bool.true_or,Bool.or_true,if_true]at h1;exact (List.cons.inj h1).1
end
end Go.Proofs.YtimpddecdodddaaGreat
