import Derived.Test.YtkpbmbhejpmboaaGreatRows
import Derived.WalkKit
import Derived.WalkSpells
import Derived.WalkLawsBesides
import Derived.Lib.Hide
import Derived.Laws.AppendOwnNone
import Derived.Laws.EntriesVeiled
import Derived.RegionTactic
namespace Go.Proofs.YtkpbmbhejpmboaaGreat
open Go.RowKit
theorem zN (a b:Int) (h:a≠b:=by omega):(a==b)=false:=beq_eq_false_iff_ne.2 h
theorem zH (p:Prop) (h:p):Hid p:=h
def Since (w0 w:World):Prop:=Below w0.heap.size w0 w
theorem Since.refl (w:World):Since w w:=Below.refl _ _
theorem Since.trans {a b c:World} (h:Since a b) (k:Since b c):Since a c:=Below.trans h (Below.mono k h.size)
theorem Since.size {a b:World} (h:Since a b):a.heap.size≤b.heap.size:=Below.size h
theorem Since.alloc {a b:World} (h:Since a b) (o:Obj):Since a (b.alloc o):=Below.alloc h h.size o
theorem Since.drew {a b:World} (h:Since a b):Since a b.drew:=Below.drew h
theorem Since.cell {a b:World} (h:Since a b) {p : Addr} (hp:p.block<a.heap.size):b.cell? p=a.cell? p:=Below.cell h hp
def Zt (k:IntKind) (w:World) (v:Value) (l:List Int):Prop:=
 (∃ a,v=.slice a 0 0∧l=[]) ∨
 ∃ b off cap,v=.slice (some ⟨b,off,none⟩) l.length cap∧l.length≤cap∧cap≤maxLen∧b<w.heap.size∧∀ (j:Nat) (n:Int),l[j]? = some n→w.cell? ⟨b,off+j,none⟩=some (.int k n)
abbrev Zi:=Zt .i64
theorem Zt.nil (k:IntKind) (w:World):Zt k w (.slice none 0 0) []:=.inl ⟨_,rfl,rfl⟩
theorem Zt.keep {k : IntKind} {w w':World} {v : Value} {l : List Int} (h:Zt k w v l) (s:Since w w'):Zt k w' v l:=by
 rcases h with h|⟨b,off,cap,h1,h2,h3,h4,h5⟩
 ·exact .inl h
 ·exact .inr ⟨b,off,cap,h1,h2,h3,Nat.lt_of_lt_of_le h4 s.size,fun j n hj=>by rw[s.cell h4];exact h5 j n hj⟩
theorem Zt.len {k : IntKind} {w : World} {v : Value} {l : List Int} (h:Zt k w v l):l.length≤maxLen:=by
 rcases h with ⟨_,_,h⟩|⟨_,_,_,_,h2,h3,_⟩
 ·rw[h];exact Nat.zero_le _
 ·omega
theorem Xm {k : IntKind} {w : World} {b : Nat} (l:List Int) (t:TypeId) (cap:Nat) (hc:l.length≤cap) (hm:cap≤maxLen) {cs:List Value} (hb:w.heap[b]? = some (.cells cs.toArray t (0,0)))
  (ha:∀ (j:Nat) (n:Int),l[j]? = some n→cs[j]? = some (Value.int k n)):Zt k w (.slice (some ⟨b,0,none⟩) l.length cap) l:=by
 refine .inr ⟨b,0,cap,rfl,hc,hm,(Array.getElem?_eq_some_iff.1 hb).1,fun j n hj=>?_⟩;simp[World.cell?,hb,ha j n hj]
theorem ZC {k : IntKind} {w : World} {base:Nat} {e : TypeId} {v : Value} {l : List Int} (h:w.ownsRow base e 1 v l.length (l.map (Value.int k))):Zt k w v l:=by
 obtain⟨_,⟨hv,hn⟩|⟨g,cap,cur,hv,_,hg,hc,hm,hs,ha⟩⟩:=h
 ·refine .inl ⟨_,hv,?_⟩;exact List.length_eq_zero_iff.1 hn
 ·subst hv;refine Xm (cs:=cur.toList) l e cap hc hm (by simpa using hg) fun j n hj=>?_
  have hb:j<l.length:=(List.getElem?_eq_some_iff.1 hj).1;have:=congrArg (fun x=>x[j]?) ha;simp only[Nat.mul_one,List.getElem?_map,hj,Option.map_some]at this
  rwa [List.getElem?_take_of_lt hb]at this
theorem XF (w:World) (base:Nat) (e:TypeId) (k:IntKind):w.ownsRow base e 1 (.slice none 0 0) ([]:List Int).length (([]:List Int).map (Value.int k)):=⟨rfl,.inl ⟨rfl,rfl⟩⟩
theorem Yu {P : Program} {w0 w:World} {ops:Array Oper} {rest:List Oper} {o : Oper} {a : Act} {Q : Exit→Act→World→Prop} (k:IntKind) (hh:o.guard=none) (s x:Operand) (t:TypeId)
  (ho:o.op=.call { callee:=.builtin .append,args:=#[s,x],argTypes:=#[t,t] })
  (e:TypeId) (z:Value) (bytes:Nat) (ht:P.underlying t=some (.slice e)) (hj:(P.info? e).map (fun i=>(i.zero,i.size,i.bytes))=some (some z,1,bytes)) (hz:z.cells.size=1) (hw:bytes≤8)
  (v xv:Value) (l1 l2:List Int) (hs:a.eval s=v) (hx:a.eval x=xv) (hd:w.ownsRow w0.heap.size e 1 v l1.length (l1.map (Value.int k))) (hy:Zt k w xv l2)
  (hf:l1.length+l2.length≤1000000) (ha:Since w0 w)
  (h:∀ v' w',w'.ownsRow w0.heap.size e 1 v' (l1++l2).length ((l1++l2).map (Value.int k))→Since w0 w'→wpList P ops Q rest (a.put o.dst v') w'):wpList P ops Q (o::rest) a w:=by
 obtain⟨i,hi,hp,hm,hl⟩:=info_parts hj;have hq:∀ (w':World),w.grownBy w' v.ownBlock→Since w0 w':=by
  intro w' hc;refine Below.grown ha hc ha.size ?_;intro r hr;obtain⟨_,⟨hv,_⟩|⟨g,cap,cur,hv,hg,_⟩⟩:=hd
  ·subst hv;cases hr
  ·subst hv;cases hr;exact hg
 rcases hy with ⟨ad,hv,rfl⟩|⟨b,off,cap,hv,hA,_,hb,hk⟩
 ·subst hv
  cases ad with
  | none =>
   refine wpList_append_own_none hh s x t ho w0.heap.size e i 1 ht hi v _ _ hs hd hx (h v w ?_ ha);simpa using hd
  | some ad =>
   refine wpList_append_own _ hh s x t ho w0.heap.size e i z 1 bytes ht hi hp hm hl hz (by decide) v _ _ hs hd ad 0 0 [] hx rfl (fun j u hu=>by cases hu) (fun u hu=>by cases hu) (by unfold maxLen;simp at hf;omega) ?_ ha.size ?_
   ·have:(l1.length+0)*bytes≤1000000*8:=Nat.mul_le_mul (by simpa using hf) hw;omega
   ·intro v' w' he hc _;exact h v' w' (by simpa using he) (hq w' hc)
 ·subst hv;refine wpList_append_own _ hh s x t ho w0.heap.size e i z 1 bytes ht hi hp hm hl hz (by decide) v _ _ hs hd ⟨b,off,none⟩ l2.length cap (l2.map (Value.int k)) hx (by simp) ?_ ?_ (by unfold maxLen;omega) ?_ ha.size ?_
  ·intro j u hu;rw[List.getElem?_map]at hu;obtain⟨n,hn,rfl⟩:=Option.map_eq_some_iff.1 hu;have:=hk j n hn;unfold Addr.add;split
   ·rename_i h0;subst h0;simpa using this
   ·exact this
  ·intro u hu;obtain⟨n,_,rfl⟩:=List.mem_map.1 hu;rfl
  ·have:(l1.length+l2.length)*bytes≤1000000*8:=Nat.mul_le_mul hf hw;omega
  ·intro v' w' he hc _;exact h v' w' (by simpa using he) (hq w' hc)
structure Mach where
 op:Int
 d:Int
 e:Int
 a:Int
 b:Int
 c:Int
 imm:Int
 args:List Int
def mv (m:Mach) (av:Value):Value:=.agg #[.int .i64 m.op,.int .i64 m.d,.int .i64 m.e,.int .i64 m.a,.int .i64 m.b,.int .i64 m.c,.int .i32 m.imm,av]
def YD (w:World) (l:List Int) (e:Ending) (w':World):Prop:=∃ v,e=.returned v∧Zi w' v l∧Since w w'
theorem ZS (w:World) (o:Obj):(w.alloc o).heap[w.heap.size]? = some o:=(MapKept.heap_alloc w o).1
theorem Zp {w0 w:World} (s:Since w0 w) {b n:Nat} (l:List Int) (t:TypeId) {cs:Array Value} (hb:b=w.heap.size) (hn:n=l.length) (hm:l.length≤maxLen) (ha:cs=(l.map (Value.int .i64)).toArray) :
  YD w0 l (.returned (.slice (some ⟨b,0,none⟩) n n)) (w.alloc (.cells cs t)):=by
 subst hb;subst hn;subst ha;refine⟨_,rfl,Xm l t _ (Nat.le_refl _) hm (ZS _ _) ?_,s.alloc _⟩;intro j n hj;simp[hj]
theorem ZM {w0 w:World} (s:Since w0 w):YD w0 [] (.returned (.slice none 0 0)) w:=⟨_,rfl,.nil _ _,s⟩
set_option linter.unusedVariables false
set_option maxHeartbeats 1000000
set_option maxRecDepth 100000
def Enters (f:Nat):Prop:=∀ (args:Array Value) (w:World),(callFunc f args).run Tryz.prog w=.ok (.enter f args) w
def X6 (f:Nat) (g:Mach→List Int):Prop:=Enters f∧∀ (m:Mach) (av:Value) (w:World),Zi w av m.args→m.args.length≤1000→Calls Tryz.prog f #[mv m av] w (YD w (g m))
theorem Wh:X6 178 (fun m=>[]):=by
 refine⟨fun _ _=>by kernel_rfl,?_⟩;rintro⟨op,d,e,a,b,c,imm,args⟩ av w h _;unfold mv;go_enter Tryz.func178,Tryz.ntmps178
 go_wp2
 go_ret
 exact ZM ((Since.refl _).alloc _)
theorem k_d:X6 179 (fun m=>[m.d]):=by
 refine⟨fun _ _=>by kernel_rfl,?_⟩;rintro⟨op,d,e,a,b,c,imm,args⟩ av w h _;unfold mv;go_enter Tryz.func179,Tryz.ntmps179
 go_wp2
 go_ret
 exact Zp ((Since.refl _).alloc _) _ _ (by simp) rfl (by simp[maxLen]) rfl
theorem k_a:X6 180 (fun m=>[m.a]):=by
 refine⟨fun _ _=>by kernel_rfl,?_⟩;rintro⟨op,d,e,a,b,c,imm,args⟩ av w h _;unfold mv;go_enter Tryz.func180,Tryz.ntmps180
 go_wp2
 go_ret
 exact Zp ((Since.refl _).alloc _) _ _ (by simp) rfl (by simp[maxLen]) rfl
theorem Km:X6 181 (fun m=>[m.a,m.b]):=by
 refine⟨fun _ _=>by kernel_rfl,?_⟩;rintro⟨op,d,e,a,b,c,imm,args⟩ av w h _;unfold mv;go_enter Tryz.func181,Tryz.ntmps181
 go_wp2
 go_ret
 exact Zp ((Since.refl _).alloc _) _ _ (by simp) rfl (by simp[maxLen]) rfl
theorem Zco:X6 182 (fun m=>[m.a,m.b,m.c]):=by
 refine⟨fun _ _=>by kernel_rfl,?_⟩;rintro⟨op,d,e,a,b,c,imm,args⟩ av w h _;unfold mv;go_enter Tryz.func182,Tryz.ntmps182
 go_wp2
 go_ret
 exact Zp ((Since.refl _).alloc _) _ _ (by simp) rfl (by simp[maxLen]) rfl
theorem Zen:X6 185 (fun m=>[m.d,m.e]):=by
 refine⟨fun _ _=>by kernel_rfl,?_⟩;rintro⟨op,d,e,a,b,c,imm,args⟩ av w h _;unfold mv;go_enter Tryz.func185,Tryz.ntmps185
 go_wp2
 go_ret
 exact Zp ((Since.refl _).alloc _) _ _ (by simp) rfl (by simp[maxLen]) rfl
theorem Tryz.info3:(Tryz.prog.info? 3).map (fun i=>(i.zero,i.size,i.bytes))=some (some (.int .i64 0),1,8):=by kernel_rfl
theorem Wg {w : World} {base b:Nat} (ha:b=w.heap.size) (hb:base≤w.heap.size) (e:TypeId) (k:IntKind) :
  (w.alloc (.cells #[] e)).ownsRow base e 1 (.slice (some ⟨b,0,none⟩) 0 0) ([]:List Int).length (([]:List Int).map (Value.int k)):=by
 subst ha;exact⟨rfl,.inr ⟨w.heap.size,0,#[],rfl,hb,ZS _ _,Nat.le_refl _,Nat.zero_le _,rfl,rfl⟩⟩
theorem Zbv (v:Value) (l:List Int) (w:World) (h:Zt .i64 w v l) (hl:l.length≤1000) :
  Calls Tryz.prog 184 #[v] w (YD w l):=by
 have h':=h;have he:=fun w a l c=>Lib.run_eql_slice_nil (P:=Tryz.prog) w 22 _ a l c 0 0 Tryz.underlying22
 rcases h with ⟨ad,rfl,rfl⟩|⟨b,off,cap,rfl,hf,hd,hb,hc⟩
 ·rcases ad with _|ad
  rotate_left
  ·go_enter Tryz.func184,Tryz.ntmps184
   go_wp2_with (at_builtin;refine Yu (w0:=w) .i64 rfl _ _ 22 rfl 3 (.int .i64 0) 8 Tryz.underlying22 Tryz.info3 rfl (by decide) _ _ [] [] rfl rfl (Wg rfl (Nat.le_refl _) _ _) (h'.keep ((Since.refl _).alloc _)) (by simp) ((Since.refl _).alloc _) ?_;intro v' w' ha hs)
   go_ret
   exact⟨_,rfl,ZC ha,hs⟩
  go_enter Tryz.func184,Tryz.ntmps184
  go_wp2
  go_ret
  exact ZM (Since.refl _)
 ·go_enter Tryz.func184,Tryz.ntmps184
  go_wp2_with (at_builtin;refine Yu (w0:=w) .i64 rfl _ _ 22 rfl 3 (.int .i64 0) 8 Tryz.underlying22 Tryz.info3 rfl (by decide) _ _ [] l rfl rfl (Wg rfl (Nat.le_refl _) _ _) (h'.keep ((Since.refl _).alloc _)) (by simp;omega) ((Since.refl _).alloc _) ?_;intro v' w' ha hs)
  go_ret
  exact⟨_,rfl,ZC ha,hs⟩
theorem ZbA (w:World) (o o':Obj):({ w.alloc o with heap:=(w.alloc o).heap.setIfInBounds w.heap.size o' }:World)=w.alloc o':=by
 have:(w.heap.push o).setIfInBounds w.heap.size o'=w.heap.push o':=by
  apply Array.ext'
  simp[Array.toList_setIfInBounds,Array.toList_push]
 simp only[World.alloc];rw[this]
def Wz (n:Int):List MapEntry→Bool
 | []=>true
 | e::r=>match e.key with
  | .int .i64 m=>!(n==m)&&Wz n r
  | _=>false
def VP (n:Int):List MapEntry→Option Value
 | []=>none
 | e::r=>match e.key with
  | .int .i64 m=>if n==m then some e.val else VP n r
  | _=>none
theorem KQ (n:Int):Wz n []=true:=Eq.trans (Eq.refl _) (Eq.refl true)
theorem JX (n m:Int) (v:Value) (b:Nat) (r:List MapEntry):Wz n ({ key:=.int .i64 m,val:=v,born:=b }::r)=(!(n==m)&&Wz n r):=Eq.trans (Eq.refl _) (Eq.refl _)
theorem Zbc (n m:Int) (v:Value) (b:Nat) (r:List MapEntry):VP n ({ key:=.int .i64 m,val:=v,born:=b }::r)=if n==m then some v else VP n r:=Eq.trans (Eq.refl _) (Eq.refl _)
theorem XP (n:Int):∀ (l:List MapEntry) (i:Nat),Wz n l=true→Instr.findNow (.int .i64) (.int .i64 n) l i=some none
 | [],_,_=>rfl
 | e::r,i,h=>by
  unfold Wz at h
  split at h
  ·rename_i m hm
   simp at h
   have hb:(n==m)=false:=by simpa using h.1
   simp[Instr.findNow,hm,Instr.sameNow,hb,XP n r _ h.2]
  ·cases h
theorem WP (n:Int) (v:Value):∀ (l:List MapEntry) (i:Nat),VP n l=some v→∃ j,Instr.findNow (.int .i64) (.int .i64 n) l i=some (some (j,v))
 | [],_,h=>by cases h
 | e::r,i,h=>by
  unfold VP at h
  split at h
  ·rename_i m hm
   by_cases hb:n=m
   ·subst hb;simp at h;exact⟨i,by simp[Instr.findNow,hm,Instr.sameNow,h]⟩
   ·rw[if_neg (by simpa using hb)]at h
    obtain⟨j,hj⟩:=WP n v r (i+1) h
    have ha:(n==m)=false:=by simpa using hb
    exact⟨j,by simp[Instr.findNow,hm,Instr.sameNow,ha,hj]⟩
  ·cases h
theorem Zw {P : Program} {t K E:TypeId} (ht:P.underlying t=some (.map K E)) (hK:P.underlying K=some (.int .i64)) (w:World) (es:List MapEntry) (b c:Nat) (n:Int) (v:Value) (hs:b=w.heap.size) (hf:Wz n es=true) :
  (Instr.mapUpdate t (.map (some b)) (.int .i64 n) v).run P (w.alloc (.map es.toArray c))=.ok () (w.alloc (.map (es++[({ key:=.int .i64 n,val:=v,born:=c }:MapEntry)]).toArray (c+1))):=by
 subst hs;have hb:=(MapKept.heap_alloc w (.map es.toArray c)).1;have ha:MapKept.IsKey (.int .i64) (.int .i64 n):=rfl;have hc:Instr.findNow (.int .i64) (.int .i64 n) es.toArray.toList 0=some none:=XP n es 0 hf;simp only[Instr.mapUpdate,Sem.run_bind,run_underlying ht,Result.andThen,MapKept.run_getObj_map hb,MapKept.run_checkKey hK ha,MapKept.run_findKey hK hc,MapKept.run_setObj_map _ hb];rw[ZbA];simp
theorem ZQ {P : Program} {t K E:TypeId} (ht:P.underlying t=some (.map K E)) (hK:P.underlying K=some (.int .i64)) (w:World) (es:List MapEntry) (b c:Nat) (n:Int) (v:Value) (hs:b=w.heap.size) (hf:VP n es=some v) :
  (Instr.lookup t (.map (some b)) (.int .i64 n) false).run P (w.alloc (.map es.toArray c))=.ok v (w.alloc (.map es.toArray c)):=by
 subst hs;have hb:=(MapKept.heap_alloc w (.map es.toArray c)).1;have ha:MapKept.IsKey (.int .i64) (.int .i64 n):=rfl;obtain⟨j,hj⟩:=WP n v es.toArray.toList 0 hf;simp[Instr.lookup,run_underlying ht,MapKept.run_getObj_map hb,MapKept.run_checkKey hK ha,MapKept.run_findKey hK hj,Result.andThen]
theorem JI {P : Program} {t K E:TypeId} (ht:P.underlying t=some (.map K E)) (hK:P.underlying K=some (.int .i64)) (z:Value) (hz:∀ w:World,(zeroValue E).run P w=.ok z w) (w:World) (es:List MapEntry) (b c:Nat) (n:Int) (hs:b=w.heap.size) (hf:Wz n es=true) :
  (Instr.lookup t (.map (some b)) (.int .i64 n) false).run P (w.alloc (.map es.toArray c))=.ok z (w.alloc (.map es.toArray c)):=by
 subst hs;have hb:=(MapKept.heap_alloc w (.map es.toArray c)).1;have ha:MapKept.IsKey (.int .i64) (.int .i64 n):=rfl;have hc:Instr.findNow (.int .i64) (.int .i64 n) es.toArray.toList 0=some none:=XP n es 0 hf;simp[Instr.lookup,run_underlying ht,MapKept.run_getObj_map hb,MapKept.run_checkKey hK ha,MapKept.run_findKey hK hc,hz,Result.andThen]
theorem Jh {P : Program} {t K E:TypeId} (ht:P.underlying t=some (.map K E)) (hK:P.underlying K=some (.int .i64)) (w:World) (es:List MapEntry) (b c:Nat) (n:Int) (v:Value) (hs:b=w.heap.size) (hf:VP n es=some v) :
  (Instr.lookup t (.map (some b)) (.int .i64 n) true).run P (w.alloc (.map es.toArray c))=.ok (.tuple #[v,.bool true]) (w.alloc (.map es.toArray c)):=by
 subst hs;have hb:=(MapKept.heap_alloc w (.map es.toArray c)).1;have ha:MapKept.IsKey (.int .i64) (.int .i64 n):=rfl;obtain⟨j,hj⟩:=WP n v es.toArray.toList 0 hf;simp[Instr.lookup,run_underlying ht,MapKept.run_getObj_map hb,MapKept.run_checkKey hK ha,MapKept.run_findKey hK hj,Result.andThen]
theorem VG {P : Program} {t K E:TypeId} (ht:P.underlying t=some (.map K E)) (hK:P.underlying K=some (.int .i64)) (z:Value) (hz:∀ w:World,(zeroValue E).run P w=.ok z w) (w:World) (es:List MapEntry) (b c:Nat) (n:Int) (hs:b=w.heap.size) (hf:Wz n es=true) :
  (Instr.lookup t (.map (some b)) (.int .i64 n) true).run P (w.alloc (.map es.toArray c))=.ok (.tuple #[z,.bool false]) (w.alloc (.map es.toArray c)):=by
 subst hs;have hb:=(MapKept.heap_alloc w (.map es.toArray c)).1;have ha:MapKept.IsKey (.int .i64) (.int .i64 n):=rfl;have hc:Instr.findNow (.int .i64) (.int .i64 n) es.toArray.toList 0=some none:=XP n es 0 hf;simp[Instr.lookup,run_underlying ht,MapKept.run_getObj_map hb,MapKept.run_checkKey hK ha,MapKept.run_findKey hK hc,hz,Result.andThen]
theorem Zds:X6 183 (fun m=>m.args):=by
 refine⟨fun _ _=>by kernel_rfl,?_⟩;rintro⟨op,d,e,a,b,c,imm,args⟩ av w h hl;unfold mv;have h2:=h.keep ((Since.refl w).alloc (.cells #[.int .i64 op,.int .i64 d,.int .i64 e,.int .i64 a,.int .i64 b,.int .i64 c,.int .i32 imm,av] 59));go_enter Tryz.func183,Tryz.ntmps183
 go_wp2_with (go_at_call 184;refine (Zbv _ _ _ h2 hl).mono ?_;rintro e w1 ⟨v,rfl,hv,hs⟩)
 go_ret
 exact⟨_,rfl,hv,((Since.refl _).alloc _).trans hs⟩
def Zcn:List MapEntry:=[
 { key:=.int .i64 1,val:=.agg #[.func (.func 180) #[] #[],.func (.func 179) #[] #[]],born:=0 },
 { key:=.int .i64 2,val:=.agg #[.func (.func 181) #[] #[],.func (.func 181) #[] #[]],born:=1 },
 { key:=.int .i64 3,val:=.agg #[.func (.func 178) #[] #[],.func (.func 179) #[] #[]],born:=2 },
 { key:=.int .i64 4,val:=.agg #[.func (.func 178) #[] #[],.func (.func 179) #[] #[]],born:=3 },
 { key:=.int .i64 23,val:=.agg #[.func (.func 182) #[] #[],.func (.func 179) #[] #[]],born:=4 },
 { key:=.int .i64 24,val:=.agg #[.func (.func 180) #[] #[],.func (.func 179) #[] #[]],born:=5 },
 { key:=.int .i64 25,val:=.agg #[.func (.func 181) #[] #[],.func (.func 179) #[] #[]],born:=6 },
 { key:=.int .i64 26,val:=.agg #[.func (.func 181) #[] #[],.func (.func 178) #[] #[]],born:=7 },
 { key:=.int .i64 27,val:=.agg #[.func (.func 182) #[] #[],.func (.func 178) #[] #[]],born:=8 },
 { key:=.int .i64 28,val:=.agg #[.func (.func 183) #[] #[],.func (.func 179) #[] #[]],born:=9 },
 { key:=.int .i64 29,val:=.agg #[.func (.func 181) #[] #[],.func (.func 185) #[] #[]],born:=10 },
 { key:=.int .i64 30,val:=.agg #[.func (.func 178) #[] #[],.func (.func 179) #[] #[]],born:=11 },
 { key:=.int .i64 31,val:=.agg #[.func (.func 180) #[] #[],.func (.func 178) #[] #[]],born:=12 }]
theorem ZaH (w:World):(zeroValue 192).run Tryz.prog w=.ok (.agg #[.nilFunc,.nilFunc]) w:=by kernel_rfl
def JA (w:World) (x y:Nat) (e:Ending) (w':World):Prop:=e=.returned (.agg #[.func (.func x) #[] #[],.func (.func y) #[] #[]])∧Since w w'
attribute [local simp] KQ JX
theorem Z3 (op:Int) (x y:Nat) (w:World) (h:VP op Zcn=some (.agg #[.func (.func x) #[] #[],.func (.func y) #[] #[]])) :
  Calls Tryz.prog 121 #[.int .i64 op] w (JA w x y):=by
 have hb:=@run_makeMap Tryz.prog;have ha:=@Zw Tryz.prog _ _ _ Tryz.underlying229 Tryz.underlying3;have hc:=@Jh Tryz.prog _ _ _ Tryz.underlying229 Tryz.underlying3;unfold Zcn at h;go_enter Tryz.func121,Tryz.ntmps121
 go_wp2
 exact bodyPost_ret (v:=.agg #[.func (.func x) #[] #[],.func (.func y) #[] #[]]) (by simp[results,Tryz.results121,go_sem]) rfl ⟨rfl,(((Since.refl _).alloc _).alloc _).alloc _⟩
theorem WO (op:Int) (x y:Nat) (w:World) (n1:(op==1)=false) (n2:(op==2)=false) (n3:(op==3)=false) (n4:(op==4)=false) (n23:(op==23)=false) (n24:(op==24)=false) (n25:(op==25)=false) (n26:(op==26)=false) (n27:(op==27)=false) (n28:(op==28)=false) (n29:(op==29)=false) (n30:(op==30)=false) (n31:(op==31)=false)
  (h:(x=181∧y=179∧5≤op∧op≤17)∨(x=180∧y=179∧¬ op≤17∧18≤op∧op≤22)∨(x=178∧y=178∧¬ 5≤op)∨(x=178∧y=178∧¬ op≤22)) :
  Calls Tryz.prog 121 #[.int .i64 op] w (JA w x y):=by
 have hb:=@run_makeMap Tryz.prog;have ha:=@Zw Tryz.prog _ _ _ Tryz.underlying229 Tryz.underlying3;have hc:=@VG Tryz.prog _ _ _ Tryz.underlying229 Tryz.underlying3 _ ZaH;rcases h with ⟨rfl,rfl,g1,g2⟩|⟨rfl,rfl,g0,g1,g2⟩|⟨rfl,rfl,g1⟩|⟨rfl,rfl,g1⟩;all_goals
  go_enter Tryz.func121,Tryz.ntmps121
  go_wp2
  exact bodyPost_ret (v:=.agg #[.func (.func _) #[] #[],.func (.func _) #[] #[]]) (by simp[results,Tryz.results121,go_sem]) rfl ⟨rfl,(((Since.refl _).alloc _).alloc _).alloc _⟩
def takes7 (m:Mach):List Int:=
 if m.op=1∨(18≤m.op∧m.op≤22)∨m.op=24∨m.op=31 then [m.a]
 else if m.op=2∨(5≤m.op∧m.op≤17)∨m.op=25∨m.op=26∨m.op=29 then [m.a,m.b]
 else if m.op=23∨m.op=27 then [m.a,m.b,m.c] else if m.op=28 then m.args else []
def makes7 (m:Mach):List Int:=
 if m.op=2 then [m.a,m.b] else if m.op=29 then [m.d,m.e] else if m.op=26∨m.op=27∨m.op=31∨m.op<1∨31<m.op then [] else [m.d]
def KindAt (f:Nat) (m:Mach) (l:List Int):Prop:=Enters f∧∀ (av:Value) (w:World),Zi w av m.args→m.args.length≤1000→Calls Tryz.prog f #[mv m av] w (YD w l)
theorem X6.at {f : Nat} {g : Mach→List Int} (h:X6 f g) (m:Mach) {l : List Int} (e:g m=l):KindAt f m l:=⟨h.1,fun av w h1 h2=>by rw[←e];exact h.2 m av w h1 h2⟩
def Ka (m:Mach) (w:World) (e:Ending) (w':World):Prop:=∃ x y,e=.returned (.agg #[.func (.func x) #[] #[],.func (.func y) #[] #[]])∧KindAt x m (takes7 m)∧KindAt y m (makes7 m)∧Since w w'
theorem Ya {m : Mach} {w : World} {x y:Nat} (hx:KindAt x m (takes7 m)) (hy:KindAt y m (makes7 m)) (h:Calls Tryz.prog 121 #[.int .i64 m.op] w (JA w x y)) :
  Calls Tryz.prog 121 #[.int .i64 m.op] w (Ka m w):=h.mono fun _ _ ⟨he,hs⟩=>⟨x,y,he,hx,hy,hs⟩
theorem JT (m:Mach) (w:World):Calls Tryz.prog 121 #[.int .i64 m.op] w (Ka m w):=by
 by_cases h1:m.op=1
 ·exact Ya (k_a.at m (by simp[takes7,h1])) (k_d.at m (by simp[makes7,h1])) (Z3 _ _ _ w (by rw[h1];rfl))
 by_cases h2:m.op=2
 ·exact Ya (Km.at m (by simp[takes7,h2])) (Km.at m (by simp[makes7,h2])) (Z3 _ _ _ w (by rw[h2];rfl))
 by_cases h3:m.op=3
 ·exact Ya (Wh.at m (by simp[takes7,h3])) (k_d.at m (by simp[makes7,h3])) (Z3 _ _ _ w (by rw[h3];rfl))
 by_cases h4:m.op=4
 ·exact Ya (Wh.at m (by simp[takes7,h4])) (k_d.at m (by simp[makes7,h4])) (Z3 _ _ _ w (by rw[h4];rfl))
 by_cases hi:m.op=23
 ·exact Ya (Zco.at m (by simp[takes7,hi])) (k_d.at m (by simp[makes7,hi])) (Z3 _ _ _ w (by rw[hi];rfl))
 by_cases hh:m.op=24
 ·exact Ya (k_a.at m (by simp[takes7,hh])) (k_d.at m (by simp[makes7,hh])) (Z3 _ _ _ w (by rw[hh];rfl))
 by_cases hg:m.op=25
 ·exact Ya (Km.at m (by simp[takes7,hg])) (k_d.at m (by simp[makes7,hg])) (Z3 _ _ _ w (by rw[hg];rfl))
 by_cases hf:m.op=26
 ·exact Ya (Km.at m (by simp[takes7,hf])) (Wh.at m (by simp[makes7,hf])) (Z3 _ _ _ w (by rw[hf];rfl))
 by_cases he:m.op=27
 ·exact Ya (Zco.at m (by simp[takes7,he])) (Wh.at m (by simp[makes7,he])) (Z3 _ _ _ w (by rw[he];rfl))
 by_cases hd:m.op=28
 ·exact Ya (Zds.at m (by simp[takes7,hd])) (k_d.at m (by simp[makes7,hd])) (Z3 _ _ _ w (by rw[hd];rfl))
 by_cases hc:m.op=29
 ·exact Ya (Km.at m (by simp[takes7,hc])) (Zen.at m (by simp[makes7,hc])) (Z3 _ _ _ w (by rw[hc];rfl))
 by_cases hb:m.op=30
 ·exact Ya (Wh.at m (by simp[takes7,hb])) (k_d.at m (by simp[makes7,hb])) (Z3 _ _ _ w (by rw[hb];rfl))
 by_cases ha:m.op=31
 ·exact Ya (k_a.at m (by simp[takes7,ha])) (Wh.at m (by simp[makes7,ha])) (Z3 _ _ _ w (by rw[ha];rfl))
 by_cases g1:5≤m.op∧m.op≤17
 ·exact Ya (Km.at m (by unfold takes7;rw[if_neg (by omega),if_pos (by omega)])) (k_d.at m (by unfold makes7;rw[if_neg (by omega),if_neg (by omega),if_neg (by omega)])) (WO _ _ _ w (by simpa using h1) (by simpa using h2) (by simpa using h3) (by simpa using h4) (by simpa using hi) (by simpa using hh) (by simpa using hg) (by simpa using hf) (by simpa using he) (by simpa using hd) (by simpa using hc) (by simpa using hb) (by simpa using ha) (.inl ⟨rfl,rfl,g1⟩))
 by_cases g2:18≤m.op∧m.op≤22
 ·exact Ya (k_a.at m (by unfold takes7;rw[if_pos (by omega)])) (k_d.at m (by unfold makes7;rw[if_neg (by omega),if_neg (by omega),if_neg (by omega)])) (WO _ _ _ w (by simpa using h1) (by simpa using h2) (by simpa using h3) (by simpa using h4) (by simpa using hi) (by simpa using hh) (by simpa using hg) (by simpa using hf) (by simpa using he) (by simpa using hd) (by simpa using hc) (by simpa using hb) (by simpa using ha) (.inr (.inl ⟨rfl,rfl,by omega,g2⟩)))
 exact Ya (Wh.at m (by unfold takes7;rw[if_neg (by omega),if_neg (by omega),if_neg (by omega),if_neg (by omega)])) (Wh.at m (by unfold makes7;rw[if_neg (by omega),if_neg (by omega),if_pos (by omega)])) (WO _ _ _ w (by simpa using h1) (by simpa using h2) (by simpa using h3) (by simpa using h4) (by simpa using hi) (by simpa using hh) (by simpa using hg) (by simpa using hf) (by simpa using he) (by simpa using hd) (by simpa using hc) (by simpa using hb) (by simpa using ha) (by by_cases h:5≤m.op;exact .inr (.inr (.inr ⟨rfl,rfl,by omega⟩));exact .inr (.inr (.inl ⟨rfl,rfl,h⟩))))
def putAll:List Oper→Nat→(Nat→Value)→Act→Act
 | [],_,_,a=>a
 | o::r,k,vs,a=>putAll r (k+1) vs (a.put o.dst (vs k))
def ZU:List Oper→Bool
 | []=>true
 | o::r=>(r.all fun p=>match o.dst,p.dst with | some d,some e=>d != e | _,_=>true)&&ZU r
theorem J2 {o : Oper} {r : List Oper} (h:ZU (o::r)=true):(∀ p∈r,∀ d,o.dst=some d→p.dst≠some d)∧ZU r=true:=by
 unfold ZU at h;rw[Bool.and_eq_true,List.all_eq_true]at h;refine⟨fun p hp d hd hc=>?_,h.2⟩;have:=h.1 p hp;rw[hd,hc]at this;simp at this
theorem JL (dst:Option Tmp) (v:Value):∀ (l:List Oper) (k:Nat) (vs:Nat→Value) (a:Act),(∀ p∈l,∀ d,dst=some d→p.dst≠some d)→(putAll l k vs a).put dst v=putAll l k vs (a.put dst v)
 | [],_,_,_,_=>rfl
 | o::r,k,vs,a,h=>by
  show (putAll r (k+1) vs (a.put o.dst (vs k))).put dst v=putAll r (k+1) vs ((a.put dst v).put o.dst (vs k))
  rw[JL dst v r (k+1) vs _ (fun p hp=>h p (List.mem_cons_of_mem _ hp)),Act.put_comm a v (vs k) (h o List.mem_cons_self)]
theorem VJ:∀ (l:List Oper) (k:Nat) (vs vs':Nat→Value) (a:Act),(∀ j,k≤j→vs j=vs' j)→putAll l k vs a=putAll l k vs' a
 | [],_,_,_,_,_=>rfl
 | o::r,k,vs,vs',a,h=>by
  show putAll r (k+1) vs _=putAll r (k+1) vs' _
  rw[h k (Nat.le_refl _)]
  exact VJ r (k+1) vs vs' _ fun j hj=>h j (by omega)
theorem ZcA (a:Act) (x:Option Tmp) (v u:Value):(a.put x v).put x u=a.put x u:=by
 cases x with
 | none=>rfl
 | some d=>simp[Act.put,Array.setIfInBounds_setIfInBounds]
def upd (vs:Nat→Value) (i:Nat) (v:Value):Nat→Value:=fun j=>if j=i then v else vs j
theorem XQ (vs:Nat→Value) (i:Nat) (v:Value):upd vs i v i=v:=if_pos rfl
theorem YW (vs:Nat→Value) {i j:Nat} (v:Value) (h:j≠i):upd vs i v j=vs j:=if_neg h
theorem Xk (v:Value):∀ (l:List Oper) (k:Nat) (vs:Nat→Value) (a:Act) (i:Nat) (o:Oper),l[i]? = some o→ZU l=true→putAll l k (upd vs (k+i) v) a=(putAll l k vs a).put o.dst v
 | [],_,_,_,_,_,h,_=>by cases h
 | p::r,k,vs,a,0,o,h,hd=>by
  obtain rfl:p=o:=by simpa using h
  show putAll r (k+1) (upd vs (k+0) v) (a.put p.dst (upd vs (k+0) v k))=(putAll r (k+1) vs (a.put p.dst (vs k))).put p.dst v
  rw[JL p.dst v r (k+1) vs _ (J2 hd).1,ZcA]
  simp only[Nat.add_zero,XQ]
  exact VJ r (k+1) _ _ _ fun j hj=>YW _ _ (by omega)
 | p::r,k,vs,a,i+1,o,h,hd=>by
  have hr:r[i]? = some o:=by simpa using h
  show putAll r (k+1) (upd vs (k+(i+1)) v) (a.put p.dst (upd vs (k+(i+1)) v k))=(putAll r (k+1) vs (a.put p.dst (vs k))).put o.dst v
  rw[YW _ _ (by omega:k≠k+(i+1)),show k+(i+1)=k+1+i from by omega]
  exact Xk v r (k+1) vs _ i o hr (J2 hd).2
theorem ZcB (a:Act) (d:Tmp):a.put (some d) (a.tmps.getD d undef)=a:=by
 have:a.tmps.setIfInBounds d (a.tmps.getD d undef)=a.tmps:=by
  apply Array.ext_getElem?
  intro j;rw[Array.getElem?_setIfInBounds];by_cases h:d=j
  ·subst h;by_cases hd:d<a.tmps.size
   ·simp[hd]
   ·simp[hd]
  ·simp[h]
 simp only[Act.put,this]
def Yw (l:List Oper) (a:Act):Nat→Value:=fun i=>match (l[i]?).bind (·.dst) with | some d=>a.tmps.getD d undef | none=>undef
theorem Xl (old:Nat→Value) (a:Act):∀ (l:List Oper) (k:Nat),(∀ (i:Nat) (o:Oper) (d:Tmp),l[i]? = some o→o.dst=some d→old (k+i)=a.tmps.getD d undef)→putAll l k old a=a
 | [],_,_=>rfl
 | o::r,k,h=>by
  show putAll r (k+1) old (a.put o.dst (old k))=a
  have e:a.put o.dst (old k)=a:=by
   cases ho:o.dst with
   | none=>rfl
   | some d=>rw[show old k=a.tmps.getD d undef from h 0 o d rfl ho];exact ZcB a d
  rw[e];exact Xl old a r (k+1) fun i p d hi hd=>by rw[show k+1+i=k+(i+1) from by omega];exact h (i+1) p d (by simpa using hi) hd
def ZX:List Oper→Nat→Bool
 | [],_=>true
 | o::r,k=>(o.after.all fun e=>!Region.binds .any e||decide (e.on<k))&&ZX r (k+1)
theorem Z8:∀ (l:List Oper) (k:Nat),ZX l k=true→∀ (i:Nat) (o:Oper),l[i]? = some o→∀ e∈o.after,Region.binds .any e=true→e.on<k+i
 | [],_,_,_,_,h=>by cases h
 | p::r,k,hb,i,o,h=>by
  unfold ZX at hb
  rw[Bool.and_eq_true]at hb
  cases i with
  | zero =>
   obtain rfl:p=o:=by simpa using h
   intro e he ha
   have:=(Array.all_eq_true_iff_forall_mem.1 hb.1) e he
   rw[ha]at this
   simpa using this
  | succ i =>
   intro e he ha
   have:=Z8 r (k+1) hb.2 i o (by simpa using h) e he ha
   omega
def Zj (F:Nat→Value→World→Prop) (vs:Nat→Value) (w:World):List Edge→Prop
 | []=>True
 | e::r=>(match e.ground with | .textOnly _=>True | .gcOnly _=>True | _=>F e.on (vs e.on) w)∧Zj F vs w r
theorem XR (F:Nat→Value→World→Prop) (vs:Nat→Value) (w:World):∀ (l:List Edge),(∀ e∈l,Region.binds .any e=true→F e.on (vs e.on) w)→Zj F vs w l
 | [],_=>trivial
 | e::r,h=>by
  refine⟨?_,XR F vs w r fun x hx=>h x (List.mem_cons_of_mem _ hx)⟩
  have:=h e List.mem_cons_self
  unfold Region.binds at this
  revert this
  cases e.ground<;>intro this<;>first | trivial | exact this rfl
def Zc (F:Nat→Value→World→Prop) (vs:Nat→Value) (w:World):Nat→Nat→Prop
 | _,0=>True
 | k,n+1=>F k (vs k) w∧Zc F vs w (k+1) n
theorem Xa (F:Nat→Value→World→Prop) (vs:Nat→Value) (w:World):∀ (n k:Nat),(∀ i,k≤i→i<k+n→F i (vs i) w)→Zc F vs w k n
 | 0,_,_=>trivial
 | n+1,k,h=>⟨h k (Nat.le_refl _) (by omega),Xa F vs w n (k+1) fun i h1 h2=>h i (by omega) (by omega)⟩
def ZdQ (F:Nat→Value→World→Prop) (i:Nat) (dst:Option Tmp) (a:Act) (w:World) (a':Act) (w':World):Prop:=∃ v,a'=a.put dst v∧F i v w'∧Since w w'
def ZeA (Q:Exit→Act→World→Prop) (F:Nat→Value→World→Prop) (i:Nat) (dst:Option Tmp) (a:Act) (w:World):Exit→Act→World→Prop
 | .normal,a',w'=>ZdQ F i dst a w a' w'
 | e,a',w'=>Q e a' w'
theorem Oper.wp_turn {P : Program} {o : Oper} {a : Act} {w : World} {K : Act→World→Prop} {Q Q':Exit→Act→World→Prop} (h1:∀ c a w,Q' (.panic c) a w→Q (.panic c) a w) (h2:LetsOut Q'→LetsOut Q)
  (hh:o.wp P a w K Q'):o.wp P a w K Q:=by
 unfold Oper.wp at *;generalize (execOp a.eval o).run P w=r at *
 cases r with
 | ok n w' =>
  cases n<;>simp only[Oper.upon]at hh ⊢ <;>
   first
    | exact hh
    | exact Calls.mono hh (fun e w'' he=>by cases e<;>first | exact he | exact h1 _ _ _ he | exact h2 he)
 | halt x w'=>cases x<;>simp only[Oper.upon]at hh ⊢<;>first | exact hh | exact h1 _ _ _ hh
def VY (P:Program) (all:Array Oper) (Q:Exit→Act→World→Prop) (F:Nat→Value→World→Prop) (a0:Act) (w0:World):List Oper→Nat→Prop
 | [],_=>True
 | o::r,k=>(∀ (vs:Nat→Value) (w:World),Since w0 w→Zj F vs w o.after.toList →
   wpList P all (ZeA Q F k o.dst (putAll all.toList 0 vs a0) w) [o] (putAll all.toList 0 vs a0) w)∧VY P all Q F a0 w0 r (k+1)
theorem Qg {P : Program} {all:Array Oper} {Q : Exit→Act→World→Prop} {F : Nat→Value→World→Prop} {a0:Act} {w0:World}:∀ (l:List Oper) (k:Nat),VY P all Q F a0 w0 l k→∀ (i:Nat) (o:Oper),l[i]? = some o→all[k+i]? = some o →
  ∀ (vs:Nat→Value) (w:World),Since w0 w→Zj F vs w o.after.toList→∀ K:Act→World→Prop,(∀ a' w',ZdQ F (k+i) o.dst (putAll all.toList 0 vs a0) w a' w'→K a' w') →
   wpOp P all Q (k+i) K (putAll all.toList 0 vs a0) w
 | [],_,_,_,_,h,_=>by cases h
 | p::r,k,h,0,o,ho,hall=>by
  obtain rfl:p=o:=by simpa using ho
  intro vs w hw hk K hK
  have:=h.1 vs w hw hk
  unfold wpOp
  rw[hall]
  simp only[wpList]at this
  show if _ then _ else _
  split
  ·rename_i hwant
   rw[if_pos hwant]at this
   rcases this with this|⟨h1,h2⟩
   ·exact .inl (Oper.wp_turn (fun _ _ _ h=>h) (fun h=>h) (Oper.wp_mono (fun a' w' h=>hK a' w' h) this))
   ·exact .inr ⟨h1,h2⟩
  ·rename_i hwant
   rw[if_neg hwant]at this
   exact hK _ _ this
 | p::r,k,h,i+1,o,ho,hall=>by
  have:=Qg r (k+1) h.2 i o (by simpa using ho) (by rw[show k+1+i=k+(i+1) from by omega];exact hall)
  rw[show k+1+i=k+(i+1) from by omega]at this
  exact this
section
variable {P : Program} {Q : Exit→Act→World→Prop} {l : List Oper} {F : Nat→Value→World→Prop} {a0:Act} {w0:World}
theorem Zbz (hF:∀ i v w w',F i v w→Since w w'→F i v w') (hd:ZU l=true) (hb:ZX l 0=true)
  (hs:VY P l.toArray Q F a0 w0 l 0)
  (he:∀ vs w,Since w0 w→Zc F vs w 0 l.length→Q .normal (putAll l 0 vs a0) w) :
  ∀ (fuel:Nat) (listed:Array Bool) (vs:Nat→Value) (w:World),listed.size=l.length→((List.range l.length).filter fun i=>!listed.getD i true).length≤fuel→Since w0 w →
   (∀ i,i<l.length→listed.getD i true=true→F i (vs i) w)→wpAny P .any l.toArray Q fuel listed (putAll l 0 vs a0) w:=by
 have hq:∀ (listed:Array Bool) (vs:Nat→Value) (w:World),listed.size=l.length→Region.ready .any l.toArray listed=[]→Since w0 w →
   (∀ i,i<l.length→listed.getD i true=true→F i (vs i) w)→Q .normal (putAll l 0 vs a0) w:=by
  intro listed vs w hc hr hw hk;refine he vs w hw (Xa F vs w _ 0 fun i _ hi=>hk i (by omega) ?_)
  have all:∀ (n i:Nat),i<n→i<l.length→listed.getD i true=true:=by
   intro n;induction n with
   | zero=>intro i h;omega
   | succ n ih =>
    intro i h1 h2
    cases hl:listed.getD i true with
    | true=>rfl
    | false =>
     exfalso
     have:i∈Region.ready .any l.toArray listed:=by
      rw[mem_ready];have ho:l[i]? = some l[i]:=List.getElem?_eq_getElem h2;refine⟨hl,l[i],by simp,fun e hu hD=>?_⟩;have hm:=Z8 l 0 hb i l[i] ho e hu hD;have:=ih e.on (by omega) (by omega);have hg:e.on<listed.size:=by omega
      rw[Array.getD_eq_getD_getElem?,Array.getElem?_eq_getElem hg]at this ⊢;simpa using this
     rw[hr]at this
     cases this
  exact all (i+1) i (by omega) (by omega)
 intro fuel;induction fuel with
 | zero =>
  intro listed vs w hc hn hw hk;have hr:Region.ready .any l.toArray listed=[]:=by
   rw[List.eq_nil_iff_forall_not_mem];intro i hi;rw[mem_ready]at hi;obtain⟨h1,o,ho,_⟩:=hi;have hm:i<l.length:=by simpa using (Array.getElem?_eq_some_iff.1 ho).1
   have:i∈(List.range l.length).filter fun i=>!listed.getD i true:=by
    rw[List.mem_filter];exact⟨List.mem_range.2 hm,by simp[h1]⟩
   have:=List.length_pos_of_mem this;omega
  exact⟨hr,hq listed vs w hc hr hw hk⟩
 | succ fuel ih =>
  intro listed vs w hc hn hw hk;refine⟨fun hr=>hq listed vs w hc hr hw hk,fun i hi=>?_⟩;rw[mem_ready]at hi;obtain⟨h1,o,ho,hA⟩:=hi;have hf:l[i]? = some o:=by simpa using ho
  have hm:i<l.length:=(List.getElem?_eq_some_iff.1 hf).1;have hx:Zj F vs w o.after.toList:=by
   refine XR F vs w _ fun e hu hp=>?_
   have ht:e∈o.after:=by simpa using hu
   have hG:=Z8 l 0 hb i o hf e ht hp;have hC:e.on<l.length:=by omega
   refine hk e.on hC ?_;have:=hA e ht hp;have hg:e.on<listed.size:=by omega
   rw[Array.getD_eq_getD_getElem?,Array.getElem?_eq_getElem hg]at this ⊢;simpa using this
  have hh:=Qg l 0 hs i o hf (by simpa using hf) vs w hw hx;rw[Nat.zero_add]at hh;refine hh _ fun a' w' ⟨v,hE,hv,hy⟩=>?_
  subst hE;have e:=Xk v l 0 vs a0 i o hf hd;rw[Nat.zero_add]at e;rw[show l.toArray.toList=l from rfl,←e];refine ih (listed.setIfInBounds i true) (upd vs i v) w' (by simpa using hc) ?_ (hw.trans hy) ?_
  ·have e2:((List.range l.length).filter fun j=>!(listed.setIfInBounds i true).getD j true)=((List.range l.length).filter fun j=>!listed.getD j true).filter fun j=>j != i:=by
    rw[List.filter_filter];refine List.filter_congr fun j hj=>?_
    by_cases ha:j=i
    ·subst ha;have hg:j<listed.size:=by omega
     simp[Array.getD_eq_getD_getElem?,hg]
    ·rw[getD_set_ne _ (Ne.symm ha)];simp[ha]
   rw[e2];have hB:i∈(List.range l.length).filter fun j=>!listed.getD j true:=by
    rw[List.mem_filter];exact⟨List.mem_range.2 hm,by simp[h1]⟩
   have:=(List.length_filter_lt_length_iff_exists (p:=fun j=>j != i) (l:=(List.range l.length).filter fun j=>!listed.getD j true)).2 ⟨i,hB,by simp⟩
   omega
  ·intro j hj hz;by_cases ha:j=i
   ·subst ha;rw[XQ];exact hv
   ·rw[YW _ _ ha];rw[getD_set_ne _ (Ne.symm ha)]at hz;exact hF _ _ _ _ (hk j hj hz) hy
theorem JC {id:Nat} (hm:P.follows .mixedOrders=true) (hd:ZU l=true) (hb:ZX l 0=true) (F:Nat→Value→World→Prop) (hF:∀ i v w w',F i v w→Since w w'→F i v w')
  (hs:VY P l.toArray Q F a0 w0 l 0)
  (he:∀ vs w,Since w0 w→Zc F vs w 0 l.length→Q .normal (putAll l 0 vs a0) w):(Code.region id l.toArray true).wp P Q a0 w0:=by
 refine wp_region_any hm ?_;have e:=Xl (Yw l a0) a0 l 0 (fun i o d hi ha=>by simp[Yw,hi,ha]);have h:=Zbz hF hd hb hs he l.length (Array.replicate l.length false) (Yw l a0) { w0 with drawn:=w0.drawn+1 } (by simp) (Nat.le_trans (List.length_filter_le _ _) (by simp)) (Since.refl w0).drew
  (fun i hi hl=>by simp[Array.getD_eq_getD_getElem?,hi]at hl)
 rw[e]at h;simpa using h
end
def Ze:List (Value→World→Prop)→Nat→Value→World→Prop
 | [],_=>fun _ _=>True
 | f::_,0=>f
 | _::r,i+1=>Ze r i
def ZN (f:Value→World→Prop):Prop:=∀ v w w',f v w→Since w w'→f v w'
def Wm:List (Value→World→Prop)→Prop
 | []=>True
 | f::r=>ZN f∧Wm r
theorem We:∀ (l:List (Value→World→Prop)),Wm l→∀ i v w w',Ze l i v w→Since w w'→Ze l i v w'
 | [],_,_,_,_,_,_,_=>trivial
 | _::_,h,0,v,w,w',hv,hs=>h.1 v w w' hv hs
 | _::r,h,i+1,v,w,w',hv,hs=>We r h.2 i v w w' hv hs
def Is (x:Value) (v:Value) (_:World):Prop:=v=x
def Any (_:Value) (_:World):Prop:=True
def Zm (k:IntKind) (l:List Int) (v:Value) (w:World):Prop:=Zt k w v l
theorem Is.stable (x:Value):ZN (Is x):=fun _ _ _ h _=>h
theorem Zm.stable (k:IntKind) (l:List Int):ZN (Zm k l):=fun _ _ _ h hs=>Zt.keep h hs
theorem Zd {P : Program} {Q : Exit→Act→World→Prop} {l : List Oper} {a0:Act} {w0:World} {id:Nat} (hm:P.follows .mixedOrders=true) (hd:ZU l=true) (hb:ZX l 0=true) (Fs:List (Value→World→Prop)) (hF:Wm Fs)
  (hs:VY P l.toArray Q (Ze Fs) a0 w0 l 0)
  (he:∀ vs w,Since w0 w→Zc (Ze Fs) vs w 0 l.length→Q .normal (putAll l 0 vs a0) w):(Code.region id l.toArray true).wp P Q a0 w0:=
 JC hm hd hb (Ze Fs) (We Fs hF) hs he
end Go.Proofs.YtkpbmbhejpmboaaGreat
