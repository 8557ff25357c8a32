/- What the walks of the order layer speak of: old memory that stays; slices of integers as lists; instructions. What the closures of mach.kindOf hand back. slices.Clone of numbers, and the last closure of mach.kindOf. Laws of runs over a map of integer keys whose entries are written out: an update of  -/
import Derived.Test.YtkpbmbhejpmboaaRows
import Derived.WalkKit
import Derived.WalkSpells
import Derived.WalkLawsBesides
import Derived.Lib.Hide
import Derived.Laws.AppendOwnNone
import Derived.Laws.EntriesVeiled
import Derived.RegionTactic
namespace Go.Proofs.Ytkpbmbhejpmboaa
open Go.RowKit
def Since (w0 w:World):Prop:=Below w0.heap.size w0 w
theorem Since.refl (w:World):Since w w:=Below.refl _ _
theorem Since.trans {a b c:World} (h:Since a b) (k:Since b c):Since a c:=Below.trans h (Below.mono k h.size)
theorem Since.size {a b:World} (h:Since a b):a.heap.size≤b.heap.size:=Below.size h
theorem Since.alloc {a b:World} (h:Since a b) (o:Obj):Since a (b.alloc o):=Below.alloc h h.size o
theorem Since.drew {a b:World} (h:Since a b):Since a b.drew:=Below.drew h
theorem Since.cell {a b:World} (h:Since a b) {p : Addr} (hp:p.block<a.heap.size):b.cell? p=a.cell? p:=Below.cell h hp
def Nums (k:IntKind) (w:World) (v:Value) (l:List Int):Prop:=
 (∃ a,v=.slice a 0 0∧l=[]) ∨
 ∃ b off cap,v=.slice (some ⟨b,off,none⟩) l.length cap∧l.length≤cap∧cap≤maxLen∧b<w.heap.size∧∀ (j:Nat) (n:Int),l[j]? = some n→w.cell? ⟨b,off+j,none⟩=some (.int k n)
abbrev Ints:=Nums .i64
theorem Nums.nil (k:IntKind) (w:World):Nums k w (.slice none 0 0) []:=.inl ⟨_,rfl,rfl⟩
theorem Nums.keep {k : IntKind} {w w':World} {v : Value} {l : List Int} (h:Nums k w v l) (s:Since w w'):Nums k w' v l:=by
 rcases h with h|⟨b,off,cap,h1,h2,h3,h4,h5⟩
 ·exact .inl h
 ·exact .inr ⟨b,off,cap,h1,h2,h3,Nat.lt_of_lt_of_le h4 s.size,fun j n hj=>by rw[s.cell h4];exact h5 j n hj⟩
theorem Nums.len {k : IntKind} {w : World} {v : Value} {l : List Int} (h:Nums k w v l):l.length≤maxLen:=by
 rcases h with ⟨_,_,h⟩|⟨_,_,_,_,h2,h3,_⟩
 ·rw[h];exact Nat.zero_le _
 ·omega
theorem nums_new {k : IntKind} {w : World} {b : Nat} (l:List Int) (t:TypeId) (cap:Nat) (hc:l.length≤cap) (hm:cap≤maxLen) {cs:List Value} (hb:w.heap[b]? = some (.cells cs.toArray t (0,0)))
  (hcs:∀ (j:Nat) (n:Int),l[j]? = some n→cs[j]? = some (Value.int k n)):Nums k w (.slice (some ⟨b,0,none⟩) l.length cap) l:=by
 refine .inr ⟨b,0,cap,rfl,hc,hm,(Array.getElem?_eq_some_iff.1 hb).1,fun j n hj=>?_⟩
 simp[World.cell?,hb,hcs j n hj]
theorem nums_of_own {k : IntKind} {w : World} {base:Nat} {e : TypeId} {v : Value} {l : List Int} (h:w.ownsRow base e 1 v l.length (l.map (Value.int k))):Nums k w v l:=by
 obtain⟨_,⟨hv,hn⟩|⟨g,cap,cur,hv,_,hg,hc,hm,hs,htake⟩⟩:=h
 ·refine .inl ⟨_,hv,?_⟩
  exact List.length_eq_zero_iff.1 hn
 ·subst hv
  refine nums_new (cs:=cur.toList) l e cap hc hm (by simpa using hg) fun j n hj=>?_
  have hlt:j<l.length:=(List.getElem?_eq_some_iff.1 hj).1
  have:=congrArg (fun x=>x[j]?) htake
  simp only[Nat.mul_one,List.getElem?_map,hj,Option.map_some]at this
  rwa [List.getElem?_take_of_lt hlt]at this
theorem own_nil (w:World) (base:Nat) (e:TypeId) (k:IntKind):w.ownsRow base e 1 (.slice none 0 0) ([]:List Int).length (([]:List Int).map (Value.int k)):=⟨rfl,.inl ⟨rfl,rfl⟩⟩
theorem wpList_append_nums {P : Program} {w0 w:World} {ops:Array Oper} {rest:List Oper} {o : Oper} {a : Act} {Q : Exit→Act→World→Prop} (k:IntKind) (hgd:o.guard=none) (s x:Operand) (t:TypeId)
  (ho:o.op=.call { callee:=.builtin .append,args:=#[s,x],argTypes:=#[t,t] })
  (e:TypeId) (z:Value) (bytes:Nat) (ht:P.underlying t=some (.slice e)) (hinfo:(P.info? e).map (fun i=>(i.zero,i.size,i.bytes))=some (some z,1,bytes)) (hz:z.cells.size=1) (hby:bytes≤8)
  (v xv:Value) (l1 l2:List Int) (hs:a.eval s=v) (hx:a.eval x=xv) (hown:w.ownsRow w0.heap.size e 1 v l1.length (l1.map (Value.int k))) (hl2:Nums k w xv l2)
  (hlen:l1.length+l2.length≤1000000) (hsince:Since w0 w)
  (h:∀ v' w',w'.ownsRow w0.heap.size e 1 v' (l1++l2).length ((l1++l2).map (Value.int k))→Since w0 w'→wpList P ops Q rest (a.put o.dst v') w'):wpList P ops Q (o::rest) a w:=by
 obtain⟨i,hi,hz0,hz1,hz2⟩:=info_parts hinfo
 have hgr:∀ (w':World),w.grownBy w' v.ownBlock→Since w0 w':=by
  intro w' hgrow
  refine Below.grown hsince hgrow hsince.size ?_
  intro r hr
  obtain⟨_,⟨hv,_⟩|⟨g,cap,cur,hv,hg,_⟩⟩:=hown
  ·subst hv;cases hr
  ·subst hv;cases hr;exact hg
 rcases hl2 with ⟨ad,hv,rfl⟩|⟨b,off,cap,hv,hcap,_,hb,hcell⟩
 ·subst hv
  cases ad with
  | none =>
   refine wpList_append_own_none hgd s x t ho w0.heap.size e i 1 ht hi v _ _ hs hown hx (h v w ?_ hsince)
   simpa using hown
  | some ad =>
   refine wpList_append_own _ hgd s x t ho w0.heap.size e i z 1 bytes ht hi hz0 hz1 hz2 hz (by decide) v _ _ hs hown ad 0 0 [] hx rfl (fun j u hu=>by cases hu) (fun u hu=>by cases hu) (by unfold maxLen;simp at hlen;omega) ?_ hsince.size ?_
   ·have:(l1.length+0)*bytes≤1000000*8:=Nat.mul_le_mul (by simpa using hlen) hby
    omega
   ·intro v' w' hown' hgrow _
    exact h v' w' (by simpa using hown') (hgr w' hgrow)
 ·subst hv
  refine wpList_append_own _ hgd s x t ho w0.heap.size e i z 1 bytes ht hi hz0 hz1 hz2 hz (by decide) v _ _ hs hown ⟨b,off,none⟩ l2.length cap (l2.map (Value.int k)) hx (by simp) ?_ ?_ (by unfold maxLen;omega) ?_ hsince.size ?_
  ·intro j u hu
   rw[List.getElem?_map]at hu
   obtain⟨n,hn,rfl⟩:=Option.map_eq_some_iff.1 hu
   have:=hcell j n hn
   unfold Addr.add
   split
   ·rename_i h0;subst h0;simpa using this
   ·exact this
  ·intro u hu
   obtain⟨n,_,rfl⟩:=List.mem_map.1 hu
   rfl
  ·have:(l1.length+l2.length)*bytes≤1000000*8:=Nat.mul_le_mul hlen hby
   omega
  ·intro v' w' hown' hgrow _
   exact h v' w' (by simpa using hown') (hgr w' hgrow)
structure Mach where
 op:Int
 d:Int
 e:Int
 a:Int
 b:Int
 c:Int
 imm:Int
 args:List Int
def mv (m:Mach) (av:Value):Value:=.agg #[.int .i64 m.op,.int .i64 m.d,.int .i64 m.e,.int .i64 m.a,.int .i64 m.b,.int .i64 m.c,.int .i32 m.imm,av]
def Gives (w:World) (l:List Int) (e:Ending) (w':World):Prop:=∃ v,e=.returned v∧Ints w' v l∧Since w w'
theorem heap_last (w:World) (o:Obj):(w.alloc o).heap[w.heap.size]? = some o:=(MapKept.heap_alloc w o).1
theorem gives_last {w0 w:World} (s:Since w0 w) {b n:Nat} (l:List Int) (t:TypeId) {cs:Array Value} (hb:b=w.heap.size) (hn:n=l.length) (hm:l.length≤maxLen) (hcs:cs=(l.map (Value.int .i64)).toArray) :
  Gives w0 l (.returned (.slice (some ⟨b,0,none⟩) n n)) (w.alloc (.cells cs t)):=by
 subst hb;subst hn;subst hcs
 refine⟨_,rfl,nums_new l t _ (Nat.le_refl _) hm (heap_last _ _) ?_,s.alloc _⟩
 intro j n hj
 simp[hj]
theorem gives_none {w0 w:World} (s:Since w0 w):Gives w0 [] (.returned (.slice none 0 0)) w:=⟨_,rfl,.nil _ _,s⟩
set_option linter.unusedVariables false
def Enters (f:Nat):Prop:=∀ (args:Array Value) (w:World),(callFunc f args).run Try.prog w=.ok (.enter f args) w
def KindFn (f:Nat) (g:Mach→List Int):Prop:=Enters f∧∀ (m:Mach) (av:Value) (w:World),Ints w av m.args→m.args.length≤1000→Calls Try.prog f #[mv m av] w (Gives w (g m))
set_option maxHeartbeats 400000 in
set_option maxRecDepth 100000 in
theorem k_none:KindFn 106 (fun m=>[]):=by
 refine⟨fun _ _=>by kernel_rfl,?_⟩
 rintro⟨op,d,e,a,b,c,imm,args⟩ av w h _
 unfold mv
 go_enter Try.func106,Try.ntmps106
 go_wp2
 go_ret
 exact gives_none ((Since.refl _).alloc _)
set_option maxHeartbeats 400000 in
set_option maxRecDepth 100000 in
theorem k_d:KindFn 107 (fun m=>[m.d]):=by
 refine⟨fun _ _=>by kernel_rfl,?_⟩
 rintro⟨op,d,e,a,b,c,imm,args⟩ av w h _
 unfold mv
 go_enter Try.func107,Try.ntmps107
 go_wp2
 go_ret
 exact gives_last ((Since.refl _).alloc _) _ _ (by simp) rfl (by simp[maxLen]) rfl
set_option maxHeartbeats 400000 in
set_option maxRecDepth 100000 in
theorem k_a:KindFn 108 (fun m=>[m.a]):=by
 refine⟨fun _ _=>by kernel_rfl,?_⟩
 rintro⟨op,d,e,a,b,c,imm,args⟩ av w h _
 unfold mv
 go_enter Try.func108,Try.ntmps108
 go_wp2
 go_ret
 exact gives_last ((Since.refl _).alloc _) _ _ (by simp) rfl (by simp[maxLen]) rfl
set_option maxHeartbeats 400000 in
set_option maxRecDepth 100000 in
theorem k_ab:KindFn 109 (fun m=>[m.a,m.b]):=by
 refine⟨fun _ _=>by kernel_rfl,?_⟩
 rintro⟨op,d,e,a,b,c,imm,args⟩ av w h _
 unfold mv
 go_enter Try.func109,Try.ntmps109
 go_wp2
 go_ret
 exact gives_last ((Since.refl _).alloc _) _ _ (by simp) rfl (by simp[maxLen]) rfl
set_option maxHeartbeats 400000 in
set_option maxRecDepth 100000 in
theorem k_abc:KindFn 110 (fun m=>[m.a,m.b,m.c]):=by
 refine⟨fun _ _=>by kernel_rfl,?_⟩
 rintro⟨op,d,e,a,b,c,imm,args⟩ av w h _
 unfold mv
 go_enter Try.func110,Try.ntmps110
 go_wp2
 go_ret
 exact gives_last ((Since.refl _).alloc _) _ _ (by simp) rfl (by simp[maxLen]) rfl
set_option maxHeartbeats 400000 in
set_option maxRecDepth 100000 in
theorem k_de:KindFn 113 (fun m=>[m.d,m.e]):=by
 refine⟨fun _ _=>by kernel_rfl,?_⟩
 rintro⟨op,d,e,a,b,c,imm,args⟩ av w h _
 unfold mv
 go_enter Try.func113,Try.ntmps113
 go_wp2
 go_ret
 exact gives_last ((Since.refl _).alloc _) _ _ (by simp) rfl (by simp[maxLen]) rfl
theorem Try.info3:(Try.prog.info? 3).map (fun i=>(i.zero,i.size,i.bytes))=some (some (.int .i64 0),1,8):=by kernel_rfl
theorem own_empty {w : World} {base b:Nat} (hbl:b=w.heap.size) (hb:base≤w.heap.size) (e:TypeId) (k:IntKind) :
  (w.alloc (.cells #[] e)).ownsRow base e 1 (.slice (some ⟨b,0,none⟩) 0 0) ([]:List Int).length (([]:List Int).map (Value.int k)):=by
 subst hbl
 exact⟨rfl,.inr ⟨w.heap.size,0,#[],rfl,hb,heap_last _ _,Nat.le_refl _,Nat.zero_le _,rfl,rfl⟩⟩
set_option maxHeartbeats 400000 in
set_option maxRecDepth 100000 in
theorem clone_any (v:Value) (l:List Int) (w:World) (h:Nums .i64 w v l) (hl:l.length≤1000) :
  Calls Try.prog 112 #[v] w (Gives w l):=by
 have h':=h
 have he:=fun w a l c=>Lib.run_eql_slice_nil (P:=Try.prog) w 25 _ a l c 0 0 Try.underlying25
 rcases h with ⟨ad,rfl,rfl⟩|⟨b,off,cap,rfl,hcap,hmax,hb,hcell⟩
 ·rcases ad with _|ad
  rotate_left
  ·go_enter Try.func112,Try.ntmps112
   go_wp2_with (at_builtin;refine wpList_append_nums (w0:=w) .i64 rfl _ _ 25 rfl 3 (.int .i64 0) 8 Try.underlying25 Try.info3 rfl (by decide) _ _ [] [] rfl rfl (own_empty rfl (Nat.le_refl _) _ _) (h'.keep ((Since.refl _).alloc _)) (by simp) ((Since.refl _).alloc _) ?_;intro v' w' hown hs)
   go_ret
   exact⟨_,rfl,nums_of_own hown,hs⟩
  go_enter Try.func112,Try.ntmps112
  go_wp2
  go_ret
  exact gives_none (Since.refl _)
 ·go_enter Try.func112,Try.ntmps112
  go_wp2_with (at_builtin;refine wpList_append_nums (w0:=w) .i64 rfl _ _ 25 rfl 3 (.int .i64 0) 8 Try.underlying25 Try.info3 rfl (by decide) _ _ [] l rfl rfl (own_empty rfl (Nat.le_refl _) _ _) (h'.keep ((Since.refl _).alloc _)) (by simp;omega) ((Since.refl _).alloc _) ?_;intro v' w' hown hs)
  go_ret
  exact⟨_,rfl,nums_of_own hown,hs⟩
theorem alloc_set (w:World) (o o':Obj):({ w.alloc o with heap:=(w.alloc o).heap.setIfInBounds w.heap.size o' }:World)=w.alloc o':=by
 have:(w.heap.push o).setIfInBounds w.heap.size o'=w.heap.push o':=by
  apply Array.ext'
  simp[Array.toList_setIfInBounds,Array.toList_push]
 simp only[World.alloc]
 rw[this]
def fresh (n:Int):List MapEntry→Bool
 | []=>true
 | e::r=>match e.key with
  | .int .i64 m=>!(n==m)&&fresh n r
  | _=>false
def look (n:Int):List MapEntry→Option Value
 | []=>none
 | e::r=>match e.key with
  | .int .i64 m=>if n==m then some e.val else look n r
  | _=>none
theorem fresh_nil (n:Int):fresh n []=true:=Eq.trans (Eq.refl _) (Eq.refl true)
theorem fresh_cons (n m:Int) (v:Value) (b:Nat) (r:List MapEntry):fresh n ({ key:=.int .i64 m,val:=v,born:=b }::r)=(!(n==m)&&fresh n r):=Eq.trans (Eq.refl _) (Eq.refl _)
theorem findNow_fresh (n:Int):∀ (l:List MapEntry) (i:Nat),fresh n l=true→Instr.findNow (.int .i64) (.int .i64 n) l i=some none
 | [],_,_=>rfl
 | e::r,i,h=>by
  unfold fresh at h
  split at h
  ·rename_i m hm
   simp at h
   have hb:(n==m)=false:=by simpa using h.1
   simp[Instr.findNow,hm,Instr.sameNow,hb,findNow_fresh n r _ h.2]
  ·cases h
theorem findNow_look (n:Int) (v:Value):∀ (l:List MapEntry) (i:Nat),look n l=some v→∃ j,Instr.findNow (.int .i64) (.int .i64 n) l i=some (some (j,v))
 | [],_,h=>by cases h
 | e::r,i,h=>by
  unfold look at h
  split at h
  ·rename_i m hm
   by_cases hb:n=m
   ·subst hb;simp at h;exact⟨i,by simp[Instr.findNow,hm,Instr.sameNow,h]⟩
   ·rw[if_neg (by simpa using hb)]at h
    obtain⟨j,hj⟩:=findNow_look n v r (i+1) h
    have hb':(n==m)=false:=by simpa using hb
    exact⟨j,by simp[Instr.findNow,hm,Instr.sameNow,hb',hj]⟩
  ·cases h
theorem run_mapUpdate_new {P : Program} {t K E:TypeId} (ht:P.underlying t=some (.map K E)) (hK:P.underlying K=some (.int .i64)) (w:World) (es:List MapEntry) (b c:Nat) (n:Int) (v:Value) (hs:b=w.heap.size) (hf:fresh n es=true) :
  (Instr.mapUpdate t (.map (some b)) (.int .i64 n) v).run P (w.alloc (.map es.toArray c))=.ok () (w.alloc (.map (es++[({ key:=.int .i64 n,val:=v,born:=c }:MapEntry)]).toArray (c+1))):=by
 subst hs
 have hb:=(MapKept.heap_alloc w (.map es.toArray c)).1
 have hkey:MapKept.IsKey (.int .i64) (.int .i64 n):=rfl
 have hf':Instr.findNow (.int .i64) (.int .i64 n) es.toArray.toList 0=some none:=findNow_fresh n es 0 hf
 simp only[Instr.mapUpdate,Sem.run_bind,run_underlying ht,Result.andThen,MapKept.run_getObj_map hb,MapKept.run_checkKey hK hkey,MapKept.run_findKey hK hf',MapKept.run_setObj_map _ hb]
 rw[alloc_set];simp
theorem run_lookup_ok_hit {P : Program} {t K E:TypeId} (ht:P.underlying t=some (.map K E)) (hK:P.underlying K=some (.int .i64)) (w:World) (es:List MapEntry) (b c:Nat) (n:Int) (v:Value) (hs:b=w.heap.size) (hf:look n es=some v) :
  (Instr.lookup t (.map (some b)) (.int .i64 n) true).run P (w.alloc (.map es.toArray c))=.ok (.tuple #[v,.bool true]) (w.alloc (.map es.toArray c)):=by
 subst hs
 have hb:=(MapKept.heap_alloc w (.map es.toArray c)).1
 have hkey:MapKept.IsKey (.int .i64) (.int .i64 n):=rfl
 obtain⟨j,hj⟩:=findNow_look n v es.toArray.toList 0 hf
 simp[Instr.lookup,run_underlying ht,MapKept.run_getObj_map hb,MapKept.run_checkKey hK hkey,MapKept.run_findKey hK hj,Result.andThen]
theorem run_lookup_ok_miss {P : Program} {t K E:TypeId} (ht:P.underlying t=some (.map K E)) (hK:P.underlying K=some (.int .i64)) (z:Value) (hz:∀ w:World,(zeroValue E).run P w=.ok z w) (w:World) (es:List MapEntry) (b c:Nat) (n:Int) (hs:b=w.heap.size) (hf:fresh n es=true) :
  (Instr.lookup t (.map (some b)) (.int .i64 n) true).run P (w.alloc (.map es.toArray c))=.ok (.tuple #[z,.bool false]) (w.alloc (.map es.toArray c)):=by
 subst hs
 have hb:=(MapKept.heap_alloc w (.map es.toArray c)).1
 have hkey:MapKept.IsKey (.int .i64) (.int .i64 n):=rfl
 have hf':Instr.findNow (.int .i64) (.int .i64 n) es.toArray.toList 0=some none:=findNow_fresh n es 0 hf
 simp[Instr.lookup,run_underlying ht,MapKept.run_getObj_map hb,MapKept.run_checkKey hK hkey,MapKept.run_findKey hK hf',hz,Result.andThen]
set_option maxHeartbeats 400000 in
set_option maxRecDepth 100000 in
theorem k_args:KindFn 111 (fun m=>m.args):=by
 refine⟨fun _ _=>by kernel_rfl,?_⟩
 rintro⟨op,d,e,a,b,c,imm,args⟩ av w h hl
 unfold mv
 have h2:=h.keep ((Since.refl w).alloc (.cells #[.int .i64 op,.int .i64 d,.int .i64 e,.int .i64 a,.int .i64 b,.int .i64 c,.int .i32 imm,av] 46))
 go_enter Try.func111,Try.ntmps111
 go_wp2_with (go_at_call 112;refine (clone_any _ _ _ h2 hl).mono ?_;rintro e w1 ⟨v,rfl,hv,hs⟩)
 go_ret
 exact⟨_,rfl,hv,((Since.refl _).alloc _).trans hs⟩
def kinds:List MapEntry:=[
 { key:=.int .i64 1,val:=.agg #[.func (.func 108) #[] #[],.func (.func 107) #[] #[]],born:=0 },
 { key:=.int .i64 2,val:=.agg #[.func (.func 109) #[] #[],.func (.func 109) #[] #[]],born:=1 },
 { key:=.int .i64 3,val:=.agg #[.func (.func 106) #[] #[],.func (.func 107) #[] #[]],born:=2 },
 { key:=.int .i64 4,val:=.agg #[.func (.func 106) #[] #[],.func (.func 107) #[] #[]],born:=3 },
 { key:=.int .i64 23,val:=.agg #[.func (.func 110) #[] #[],.func (.func 107) #[] #[]],born:=4 },
 { key:=.int .i64 24,val:=.agg #[.func (.func 108) #[] #[],.func (.func 107) #[] #[]],born:=5 },
 { key:=.int .i64 25,val:=.agg #[.func (.func 109) #[] #[],.func (.func 107) #[] #[]],born:=6 },
 { key:=.int .i64 26,val:=.agg #[.func (.func 109) #[] #[],.func (.func 106) #[] #[]],born:=7 },
 { key:=.int .i64 27,val:=.agg #[.func (.func 110) #[] #[],.func (.func 106) #[] #[]],born:=8 },
 { key:=.int .i64 28,val:=.agg #[.func (.func 111) #[] #[],.func (.func 107) #[] #[]],born:=9 },
 { key:=.int .i64 29,val:=.agg #[.func (.func 109) #[] #[],.func (.func 113) #[] #[]],born:=10 },
 { key:=.int .i64 30,val:=.agg #[.func (.func 106) #[] #[],.func (.func 107) #[] #[]],born:=11 },
 { key:=.int .i64 31,val:=.agg #[.func (.func 108) #[] #[],.func (.func 106) #[] #[]],born:=12 }]
theorem zero_kind (w:World):(zeroValue 135).run Try.prog w=.ok (.agg #[.nilFunc,.nilFunc]) w:=by kernel_rfl
def KindPost (w:World) (x y:Nat) (e:Ending) (w':World):Prop:=e=.returned (.agg #[.func (.func x) #[] #[],.func (.func y) #[] #[]])∧Since w w'
attribute [local simp] fresh_nil fresh_cons
set_option maxHeartbeats 1000000 in
set_option maxRecDepth 100000 in
theorem kindOf_known (op:Int) (x y:Nat) (w:World) (h:look op kinds=some (.agg #[.func (.func x) #[] #[],.func (.func y) #[] #[]])) :
  Calls Try.prog 85 #[.int .i64 op] w (KindPost w x y):=by
 have hmm:=@run_makeMap Try.prog
 have hup:=@run_mapUpdate_new Try.prog _ _ _ Try.underlying168 Try.underlying3
 have hlk:=@run_lookup_ok_hit Try.prog _ _ _ Try.underlying168 Try.underlying3
 unfold kinds at h
 go_enter Try.func85,Try.ntmps85
 go_wp2
 exact bodyPost_ret (v:=.agg #[.func (.func x) #[] #[],.func (.func y) #[] #[]]) (by simp[results,Try.results85,go_sem]) rfl ⟨rfl,(((Since.refl _).alloc _).alloc _).alloc _⟩
set_option maxHeartbeats 1000000 in
set_option maxRecDepth 100000 in
theorem kindOf_other (op:Int) (x y:Nat) (w:World) (n1:(op==1)=false) (n2:(op==2)=false) (n3:(op==3)=false) (n4:(op==4)=false) (n23:(op==23)=false) (n24:(op==24)=false) (n25:(op==25)=false) (n26:(op==26)=false) (n27:(op==27)=false) (n28:(op==28)=false) (n29:(op==29)=false) (n30:(op==30)=false) (n31:(op==31)=false)
  (h:(x=109∧y=107∧5≤op∧op≤17)∨(x=108∧y=107∧¬ op≤17∧18≤op∧op≤22)∨(x=106∧y=106∧¬ 5≤op)∨(x=106∧y=106∧¬ op≤22)) :
  Calls Try.prog 85 #[.int .i64 op] w (KindPost w x y):=by
 have hmm:=@run_makeMap Try.prog
 have hup:=@run_mapUpdate_new Try.prog _ _ _ Try.underlying168 Try.underlying3
 have hlk:=@run_lookup_ok_miss Try.prog _ _ _ Try.underlying168 Try.underlying3 _ zero_kind
 rcases h with ⟨rfl,rfl,g1,g2⟩|⟨rfl,rfl,g0,g1,g2⟩|⟨rfl,rfl,g1⟩|⟨rfl,rfl,g1⟩
 all_goals
  go_enter Try.func85,Try.ntmps85
  go_wp2
  exact bodyPost_ret (v:=.agg #[.func (.func _) #[] #[],.func (.func _) #[] #[]]) (by simp[results,Try.results85,go_sem]) rfl ⟨rfl,(((Since.refl _).alloc _).alloc _).alloc _⟩
def takes7 (m:Mach):List Int:=
 if m.op=1∨(18≤m.op∧m.op≤22)∨m.op=24∨m.op=31 then [m.a]
 else if m.op=2∨(5≤m.op∧m.op≤17)∨m.op=25∨m.op=26∨m.op=29 then [m.a,m.b]
 else if m.op=23∨m.op=27 then [m.a,m.b,m.c] else if m.op=28 then m.args else []
def makes7 (m:Mach):List Int:=
 if m.op=2 then [m.a,m.b] else if m.op=29 then [m.d,m.e] else if m.op=26∨m.op=27∨m.op=31∨m.op<1∨31<m.op then [] else [m.d]
def KindAt (f:Nat) (m:Mach) (l:List Int):Prop:=Enters f∧∀ (av:Value) (w:World),Ints w av m.args→m.args.length≤1000→Calls Try.prog f #[mv m av] w (Gives w l)
theorem KindFn.at {f : Nat} {g : Mach→List Int} (h:KindFn f g) (m:Mach) {l : List Int} (e:g m=l):KindAt f m l:=⟨h.1,fun av w h1 h2=>by rw[←e];exact h.2 m av w h1 h2⟩
def KindOf (m:Mach) (w:World) (e:Ending) (w':World):Prop:=∃ x y,e=.returned (.agg #[.func (.func x) #[] #[],.func (.func y) #[] #[]])∧KindAt x m (takes7 m)∧KindAt y m (makes7 m)∧Since w w'
theorem kindOf_mk {m : Mach} {w : World} {x y:Nat} (hx:KindAt x m (takes7 m)) (hy:KindAt y m (makes7 m)) (h:Calls Try.prog 85 #[.int .i64 m.op] w (KindPost w x y)) :
  Calls Try.prog 85 #[.int .i64 m.op] w (KindOf m w):=h.mono fun _ _ ⟨he,hs⟩=>⟨x,y,he,hx,hy,hs⟩
theorem kindOf_any (m:Mach) (w:World):Calls Try.prog 85 #[.int .i64 m.op] w (KindOf m w):=by
 by_cases h1:m.op=1
 ·exact kindOf_mk (k_a.at m (by simp[takes7,h1])) (k_d.at m (by simp[makes7,h1])) (kindOf_known _ _ _ w (by rw[h1];rfl))
 by_cases h2:m.op=2
 ·exact kindOf_mk (k_ab.at m (by simp[takes7,h2])) (k_ab.at m (by simp[makes7,h2])) (kindOf_known _ _ _ w (by rw[h2];rfl))
 by_cases h3:m.op=3
 ·exact kindOf_mk (k_none.at m (by simp[takes7,h3])) (k_d.at m (by simp[makes7,h3])) (kindOf_known _ _ _ w (by rw[h3];rfl))
 by_cases h4:m.op=4
 ·exact kindOf_mk (k_none.at m (by simp[takes7,h4])) (k_d.at m (by simp[makes7,h4])) (kindOf_known _ _ _ w (by rw[h4];rfl))
 by_cases h23:m.op=23
 ·exact kindOf_mk (k_abc.at m (by simp[takes7,h23])) (k_d.at m (by simp[makes7,h23])) (kindOf_known _ _ _ w (by rw[h23];rfl))
 by_cases h24:m.op=24
 ·exact kindOf_mk (k_a.at m (by simp[takes7,h24])) (k_d.at m (by simp[makes7,h24])) (kindOf_known _ _ _ w (by rw[h24];rfl))
 by_cases h25:m.op=25
 ·exact kindOf_mk (k_ab.at m (by simp[takes7,h25])) (k_d.at m (by simp[makes7,h25])) (kindOf_known _ _ _ w (by rw[h25];rfl))
 by_cases h26:m.op=26
 ·exact kindOf_mk (k_ab.at m (by simp[takes7,h26])) (k_none.at m (by simp[makes7,h26])) (kindOf_known _ _ _ w (by rw[h26];rfl))
 by_cases h27:m.op=27
 ·exact kindOf_mk (k_abc.at m (by simp[takes7,h27])) (k_none.at m (by simp[makes7,h27])) (kindOf_known _ _ _ w (by rw[h27];rfl))
 by_cases h28:m.op=28
 ·exact kindOf_mk (k_args.at m (by simp[takes7,h28])) (k_d.at m (by simp[makes7,h28])) (kindOf_known _ _ _ w (by rw[h28];rfl))
 by_cases h29:m.op=29
 ·exact kindOf_mk (k_ab.at m (by simp[takes7,h29])) (k_de.at m (by simp[makes7,h29])) (kindOf_known _ _ _ w (by rw[h29];rfl))
 by_cases h30:m.op=30
 ·exact kindOf_mk (k_none.at m (by simp[takes7,h30])) (k_d.at m (by simp[makes7,h30])) (kindOf_known _ _ _ w (by rw[h30];rfl))
 by_cases h31:m.op=31
 ·exact kindOf_mk (k_a.at m (by simp[takes7,h31])) (k_none.at m (by simp[makes7,h31])) (kindOf_known _ _ _ w (by rw[h31];rfl))
 by_cases g1:5≤m.op∧m.op≤17
 ·exact kindOf_mk (k_ab.at m (by unfold takes7;rw[if_neg (by omega),if_pos (by omega)])) (k_d.at m (by unfold makes7;rw[if_neg (by omega),if_neg (by omega),if_neg (by omega)])) (kindOf_other _ _ _ w (by simpa using h1) (by simpa using h2) (by simpa using h3) (by simpa using h4) (by simpa using h23) (by simpa using h24) (by simpa using h25) (by simpa using h26) (by simpa using h27) (by simpa using h28) (by simpa using h29) (by simpa using h30) (by simpa using h31) (.inl ⟨rfl,rfl,g1⟩))
 by_cases g2:18≤m.op∧m.op≤22
 ·exact kindOf_mk (k_a.at m (by unfold takes7;rw[if_pos (by omega)])) (k_d.at m (by unfold makes7;rw[if_neg (by omega),if_neg (by omega),if_neg (by omega)])) (kindOf_other _ _ _ w (by simpa using h1) (by simpa using h2) (by simpa using h3) (by simpa using h4) (by simpa using h23) (by simpa using h24) (by simpa using h25) (by simpa using h26) (by simpa using h27) (by simpa using h28) (by simpa using h29) (by simpa using h30) (by simpa using h31) (.inr (.inl ⟨rfl,rfl,by omega,g2⟩)))
 exact kindOf_mk (k_none.at m (by unfold takes7;rw[if_neg (by omega),if_neg (by omega),if_neg (by omega),if_neg (by omega)])) (k_none.at m (by unfold makes7;rw[if_neg (by omega),if_neg (by omega),if_pos (by omega)])) (kindOf_other _ _ _ w (by simpa using h1) (by simpa using h2) (by simpa using h3) (by simpa using h4) (by simpa using h23) (by simpa using h24) (by simpa using h25) (by simpa using h26) (by simpa using h27) (by simpa using h28) (by simpa using h29) (by simpa using h30) (by simpa using h31) (by by_cases h:5≤m.op;exact .inr (.inr (.inr ⟨rfl,rfl,by omega⟩));exact .inr (.inr (.inl ⟨rfl,rfl,h⟩))))
def putAll:List Oper→Nat→(Nat→Value)→Act→Act
 | [],_,_,a=>a
 | o::r,k,vs,a=>putAll r (k+1) vs (a.put o.dst (vs k))
def dstsApart:List Oper→Bool
 | []=>true
 | o::r=>(r.all fun p=>match o.dst,p.dst with | some d,some e=>d != e | _,_=>true)&&dstsApart r
theorem apart_head {o : Oper} {r : List Oper} (h:dstsApart (o::r)=true):(∀ p∈r,∀ d,o.dst=some d→p.dst≠some d)∧dstsApart r=true:=by
 unfold dstsApart at h
 rw[Bool.and_eq_true,List.all_eq_true]at h
 refine⟨fun p hp d hd hc=>?_,h.2⟩
 have:=h.1 p hp
 rw[hd,hc]at this
 simp at this
theorem putAll_put (dst:Option Tmp) (v:Value):∀ (l:List Oper) (k:Nat) (vs:Nat→Value) (a:Act),(∀ p∈l,∀ d,dst=some d→p.dst≠some d)→(putAll l k vs a).put dst v=putAll l k vs (a.put dst v)
 | [],_,_,_,_=>rfl
 | o::r,k,vs,a,h=>by
  show (putAll r (k+1) vs (a.put o.dst (vs k))).put dst v=putAll r (k+1) vs ((a.put dst v).put o.dst (vs k))
  rw[putAll_put dst v r (k+1) vs _ (fun p hp=>h p (List.mem_cons_of_mem _ hp)),Act.put_comm a v (vs k) (h o List.mem_cons_self)]
theorem putAll_congr:∀ (l:List Oper) (k:Nat) (vs vs':Nat→Value) (a:Act),(∀ j,k≤j→vs j=vs' j)→putAll l k vs a=putAll l k vs' a
 | [],_,_,_,_,_=>rfl
 | o::r,k,vs,vs',a,h=>by
  show putAll r (k+1) vs _=putAll r (k+1) vs' _
  rw[h k (Nat.le_refl _)]
  exact putAll_congr r (k+1) vs vs' _ fun j hj=>h j (by omega)
theorem put_put (a:Act) (x:Option Tmp) (v u:Value):(a.put x v).put x u=a.put x u:=by
 cases x with
 | none=>rfl
 | some d=>simp[Act.put,Array.setIfInBounds_setIfInBounds]
def upd (vs:Nat→Value) (i:Nat) (v:Value):Nat→Value:=fun j=>if j=i then v else vs j
theorem upd_same (vs:Nat→Value) (i:Nat) (v:Value):upd vs i v i=v:=if_pos rfl
theorem upd_other (vs:Nat→Value) {i j:Nat} (v:Value) (h:j≠i):upd vs i v j=vs j:=if_neg h
theorem putAll_upd (v:Value):∀ (l:List Oper) (k:Nat) (vs:Nat→Value) (a:Act) (i:Nat) (o:Oper),l[i]? = some o→dstsApart l=true→putAll l k (upd vs (k+i) v) a=(putAll l k vs a).put o.dst v
 | [],_,_,_,_,_,h,_=>by cases h
 | p::r,k,vs,a,0,o,h,hd=>by
  obtain rfl:p=o:=by simpa using h
  show putAll r (k+1) (upd vs (k+0) v) (a.put p.dst (upd vs (k+0) v k))=(putAll r (k+1) vs (a.put p.dst (vs k))).put p.dst v
  rw[putAll_put p.dst v r (k+1) vs _ (apart_head hd).1,put_put]
  simp only[Nat.add_zero,upd_same]
  exact putAll_congr r (k+1) _ _ _ fun j hj=>upd_other _ _ (by omega)
 | p::r,k,vs,a,i+1,o,h,hd=>by
  have hr:r[i]? = some o:=by simpa using h
  show putAll r (k+1) (upd vs (k+(i+1)) v) (a.put p.dst (upd vs (k+(i+1)) v k))=(putAll r (k+1) vs (a.put p.dst (vs k))).put o.dst v
  rw[upd_other _ _ (by omega:k≠k+(i+1)),show k+(i+1)=k+1+i from by omega]
  exact putAll_upd v r (k+1) vs _ i o hr (apart_head hd).2
theorem put_old (a:Act) (d:Tmp):a.put (some d) (a.tmps.getD d undef)=a:=by
 have:a.tmps.setIfInBounds d (a.tmps.getD d undef)=a.tmps:=by
  apply Array.ext_getElem?
  intro j
  rw[Array.getElem?_setIfInBounds]
  by_cases h:d=j
  ·subst h
   by_cases hd:d<a.tmps.size
   ·simp[hd]
   ·simp[hd]
  ·simp[h]
 simp only[Act.put,this]
def oldAt (l:List Oper) (a:Act):Nat→Value:=fun i=>match (l[i]?).bind (·.dst) with | some d=>a.tmps.getD d undef | none=>undef
theorem putAll_old (old:Nat→Value) (a:Act):∀ (l:List Oper) (k:Nat),(∀ (i:Nat) (o:Oper) (d:Tmp),l[i]? = some o→o.dst=some d→old (k+i)=a.tmps.getD d undef)→putAll l k old a=a
 | [],_,_=>rfl
 | o::r,k,h=>by
  show putAll r (k+1) old (a.put o.dst (old k))=a
  have e:a.put o.dst (old k)=a:=by
   cases ho:o.dst with
   | none=>rfl
   | some d=>rw[show old k=a.tmps.getD d undef from h 0 o d rfl ho];exact put_old a d
  rw[e]
  exact putAll_old old a r (k+1) fun i p d hi hd=>by rw[show k+1+i=k+(i+1) from by omega];exact h (i+1) p d (by simpa using hi) hd
def edgesBack:List Oper→Nat→Bool
 | [],_=>true
 | o::r,k=>(o.after.all fun e=>!Region.binds .any e||decide (e.on<k))&&edgesBack r (k+1)
theorem edges_back:∀ (l:List Oper) (k:Nat),edgesBack l k=true→∀ (i:Nat) (o:Oper),l[i]? = some o→∀ e∈o.after,Region.binds .any e=true→e.on<k+i
 | [],_,_,_,_,h=>by cases h
 | p::r,k,hb,i,o,h=>by
  unfold edgesBack at hb
  rw[Bool.and_eq_true]at hb
  cases i with
  | zero =>
   obtain rfl:p=o:=by simpa using h
   intro e he hbd
   have:=(Array.all_eq_true_iff_forall_mem.1 hb.1) e he
   rw[hbd]at this
   simpa using this
  | succ i =>
   intro e he hbd
   have:=edges_back r (k+1) hb.2 i o (by simpa using h) e he hbd
   omega
def Knows (F:Nat→Value→World→Prop) (vs:Nat→Value) (w:World):List Edge→Prop
 | []=>True
 | e::r=>(match e.ground with | .textOnly _=>True | .gcOnly _=>True | _=>F e.on (vs e.on) w)∧Knows F vs w r
theorem knows_of (F:Nat→Value→World→Prop) (vs:Nat→Value) (w:World):∀ (l:List Edge),(∀ e∈l,Region.binds .any e=true→F e.on (vs e.on) w)→Knows F vs w l
 | [],_=>trivial
 | e::r,h=>by
  refine⟨?_,knows_of F vs w r fun x hx=>h x (List.mem_cons_of_mem _ hx)⟩
  have:=h e List.mem_cons_self
  unfold Region.binds at this
  revert this
  cases e.ground<;>intro this<;>first | trivial | exact this rfl
def KnowsAll (F:Nat→Value→World→Prop) (vs:Nat→Value) (w:World):Nat→Nat→Prop
 | _,0=>True
 | k,n+1=>F k (vs k) w∧KnowsAll F vs w (k+1) n
theorem knowsAll_of (F:Nat→Value→World→Prop) (vs:Nat→Value) (w:World):∀ (n k:Nat),(∀ i,k≤i→i<k+n→F i (vs i) w)→KnowsAll F vs w k n
 | 0,_,_=>trivial
 | n+1,k,h=>⟨h k (Nat.le_refl _) (by omega),knowsAll_of F vs w n (k+1) fun i h1 h2=>h i (by omega) (by omega)⟩
def Left (F:Nat→Value→World→Prop) (i:Nat) (dst:Option Tmp) (a:Act) (w:World) (a':Act) (w':World):Prop:=∃ v,a'=a.put dst v∧F i v w'∧Since w w'
def OneQ (Q:Exit→Act→World→Prop) (F:Nat→Value→World→Prop) (i:Nat) (dst:Option Tmp) (a:Act) (w:World):Exit→Act→World→Prop
 | .normal,a',w'=>Left F i dst a w a' w'
 | e,a',w'=>Q e a' w'
theorem Oper.wp_turn {P : Program} {o : Oper} {a : Act} {w : World} {K : Act→World→Prop} {Q Q':Exit→Act→World→Prop} (h1:∀ c a w,Q' (.panic c) a w→Q (.panic c) a w) (h2:LetsOut Q'→LetsOut Q)
  (hh:o.wp P a w K Q'):o.wp P a w K Q:=by
 unfold Oper.wp at *
 generalize (execOp a.eval o).run P w=r at *
 cases r with
 | ok n w' =>
  cases n<;>simp only[Oper.upon]at hh ⊢ <;>
   first
    | exact hh
    | exact Calls.mono hh (fun e w'' he=>by cases e<;>first | exact he | exact h1 _ _ _ he | exact h2 he)
 | halt x w'=>cases x<;>simp only[Oper.upon]at hh ⊢<;>first | exact hh | exact h1 _ _ _ hh
def Steps1 (P:Program) (all:Array Oper) (Q:Exit→Act→World→Prop) (F:Nat→Value→World→Prop) (a0:Act) (w0:World):List Oper→Nat→Prop
 | [],_=>True
 | o::r,k=>(∀ (vs:Nat→Value) (w:World),Since w0 w→Knows F vs w o.after.toList →
   wpList P all (OneQ Q F k o.dst (putAll all.toList 0 vs a0) w) [o] (putAll all.toList 0 vs a0) w)∧Steps1 P all Q F a0 w0 r (k+1)
theorem steps_at {P : Program} {all:Array Oper} {Q : Exit→Act→World→Prop} {F : Nat→Value→World→Prop} {a0:Act} {w0:World}:∀ (l:List Oper) (k:Nat),Steps1 P all Q F a0 w0 l k→∀ (i:Nat) (o:Oper),l[i]? = some o→all[k+i]? = some o →
  ∀ (vs:Nat→Value) (w:World),Since w0 w→Knows F vs w o.after.toList→∀ K:Act→World→Prop,(∀ a' w',Left F (k+i) o.dst (putAll all.toList 0 vs a0) w a' w'→K a' w') →
   wpOp P all Q (k+i) K (putAll all.toList 0 vs a0) w
 | [],_,_,_,_,h,_=>by cases h
 | p::r,k,h,0,o,ho,hall=>by
  obtain rfl:p=o:=by simpa using ho
  intro vs w hw hk K hK
  have:=h.1 vs w hw hk
  unfold wpOp
  rw[hall]
  simp only[wpList]at this
  show if _ then _ else _
  split
  ·rename_i hwant
   rw[if_pos hwant]at this
   rcases this with this|⟨h1,h2⟩
   ·exact .inl (Oper.wp_turn (fun _ _ _ h=>h) (fun h=>h) (Oper.wp_mono (fun a' w' h=>hK a' w' h) this))
   ·exact .inr ⟨h1,h2⟩
  ·rename_i hwant
   rw[if_neg hwant]at this
   exact hK _ _ this
 | p::r,k,h,i+1,o,ho,hall=>by
  have:=steps_at r (k+1) h.2 i o (by simpa using ho) (by rw[show k+1+i=k+(i+1) from by omega];exact hall)
  rw[show k+1+i=k+(i+1) from by omega]at this
  exact this
section
variable {P : Program} {Q : Exit→Act→World→Prop} {l : List Oper} {F : Nat→Value→World→Prop} {a0:Act} {w0:World}
theorem any_facts (hF:∀ i v w w',F i v w→Since w w'→F i v w') (hd:dstsApart l=true) (hb:edgesBack l 0=true)
  (hs:Steps1 P l.toArray Q F a0 w0 l 0)
  (he:∀ vs w,Since w0 w→KnowsAll F vs w 0 l.length→Q .normal (putAll l 0 vs a0) w) :
  ∀ (fuel:Nat) (listed:Array Bool) (vs:Nat→Value) (w:World),listed.size=l.length→((List.range l.length).filter fun i=>!listed.getD i true).length≤fuel→Since w0 w →
   (∀ i,i<l.length→listed.getD i true=true→F i (vs i) w)→wpAny P .any l.toArray Q fuel listed (putAll l 0 vs a0) w:=by
 have hend:∀ (listed:Array Bool) (vs:Nat→Value) (w:World),listed.size=l.length→Region.ready .any l.toArray listed=[]→Since w0 w →
   (∀ i,i<l.length→listed.getD i true=true→F i (vs i) w)→Q .normal (putAll l 0 vs a0) w:=by
  intro listed vs w hsz hr hw hk
  refine he vs w hw (knowsAll_of F vs w _ 0 fun i _ hi=>hk i (by omega) ?_)
  have all:∀ (n i:Nat),i<n→i<l.length→listed.getD i true=true:=by
   intro n
   induction n with
   | zero=>intro i h;omega
   | succ n ih =>
    intro i h1 h2
    cases hl:listed.getD i true with
    | true=>rfl
    | false =>
     exfalso
     have:i∈Region.ready .any l.toArray listed:=by
      rw[mem_ready]
      have ho:l[i]? = some l[i]:=List.getElem?_eq_getElem h2
      refine⟨hl,l[i],by simp,fun e hee hbd=>?_⟩
      have hlt:=edges_back l 0 hb i l[i] ho e hee hbd
      have:=ih e.on (by omega) (by omega)
      have hin:e.on<listed.size:=by omega
      rw[Array.getD_eq_getD_getElem?,Array.getElem?_eq_getElem hin]at this ⊢
      simpa using this
     rw[hr]at this
     cases this
  exact all (i+1) i (by omega) (by omega)
 intro fuel
 induction fuel with
 | zero =>
  intro listed vs w hsz hn hw hk
  have hr:Region.ready .any l.toArray listed=[]:=by
   rw[List.eq_nil_iff_forall_not_mem]
   intro i hi
   rw[mem_ready]at hi
   obtain⟨h1,o,ho,_⟩:=hi
   have hlt:i<l.length:=by simpa using (Array.getElem?_eq_some_iff.1 ho).1
   have:i∈(List.range l.length).filter fun i=>!listed.getD i true:=by
    rw[List.mem_filter];exact⟨List.mem_range.2 hlt,by simp[h1]⟩
   have:=List.length_pos_of_mem this
   omega
  exact⟨hr,hend listed vs w hsz hr hw hk⟩
 | succ fuel ih =>
  intro listed vs w hsz hn hw hk
  refine⟨fun hr=>hend listed vs w hsz hr hw hk,fun i hi=>?_⟩
  rw[mem_ready]at hi
  obtain⟨h1,o,ho,hpre⟩:=hi
  have hol:l[i]? = some o:=by simpa using ho
  have hlt:i<l.length:=(List.getElem?_eq_some_iff.1 hol).1
  have hknow:Knows F vs w o.after.toList:=by
   refine knows_of F vs w _ fun e hee hbind=>?_
   have hee':e∈o.after:=by simpa using hee
   have hlt2:=edges_back l 0 hb i o hol e hee' hbind
   have hon:e.on<l.length:=by omega
   refine hk e.on hon ?_
   have:=hpre e hee' hbind
   have hin:e.on<listed.size:=by omega
   rw[Array.getD_eq_getD_getElem?,Array.getElem?_eq_getElem hin]at this ⊢
   simpa using this
  have hstep:=steps_at l 0 hs i o hol (by simpa using hol) vs w hw hknow
  rw[Nat.zero_add]at hstep
  refine hstep _ fun a' w' ⟨v,ha',hv,hw'⟩=>?_
  subst ha'
  have e:=putAll_upd v l 0 vs a0 i o hol hd
  rw[Nat.zero_add]at e
  rw[show l.toArray.toList=l from rfl,←e]
  refine ih (listed.setIfInBounds i true) (upd vs i v) w' (by simpa using hsz) ?_ (hw.trans hw') ?_
  ·have e2:((List.range l.length).filter fun j=>!(listed.setIfInBounds i true).getD j true)=((List.range l.length).filter fun j=>!listed.getD j true).filter fun j=>j != i:=by
    rw[List.filter_filter]
    refine List.filter_congr fun j hj=>?_
    by_cases hji:j=i
    ·subst hji
     have hin:j<listed.size:=by omega
     simp[Array.getD_eq_getD_getElem?,hin]
    ·rw[getD_set_ne _ (Ne.symm hji)];simp[hji]
   rw[e2]
   have hmem:i∈(List.range l.length).filter fun j=>!listed.getD j true:=by
    rw[List.mem_filter];exact⟨List.mem_range.2 hlt,by simp[h1]⟩
   have:=(List.length_filter_lt_length_iff_exists (p:=fun j=>j != i) (l:=(List.range l.length).filter fun j=>!listed.getD j true)).2 ⟨i,hmem,by simp⟩
   omega
  ·intro j hj hlj
   by_cases hji:j=i
   ·subst hji;rw[upd_same];exact hv
   ·rw[upd_other _ _ hji]
    rw[getD_set_ne _ (Ne.symm hji)]at hlj
    exact hF _ _ _ _ (hk j hj hlj) hw'
theorem wp_region_facts {id:Nat} (hm:P.follows .mixedOrders=true) (hd:dstsApart l=true) (hb:edgesBack l 0=true) (F:Nat→Value→World→Prop) (hF:∀ i v w w',F i v w→Since w w'→F i v w')
  (hs:Steps1 P l.toArray Q F a0 w0 l 0)
  (he:∀ vs w,Since w0 w→KnowsAll F vs w 0 l.length→Q .normal (putAll l 0 vs a0) w):(Code.region id l.toArray true).wp P Q a0 w0:=by
 refine wp_region_any hm ?_
 have e:=putAll_old (oldAt l a0) a0 l 0 (fun i o d hi hdst=>by simp[oldAt,hi,hdst])
 have h:=any_facts hF hd hb hs he l.length (Array.replicate l.length false) (oldAt l a0) { w0 with drawn:=w0.drawn+1 } (by simp) (Nat.le_trans (List.length_filter_le _ _) (by simp)) (Since.refl w0).drew
  (fun i hi hl=>by simp[Array.getD_eq_getD_getElem?,hi]at hl)
 rw[e]at h
 simpa using h
end
def nthF:List (Value→World→Prop)→Nat→Value→World→Prop
 | [],_=>fun _ _=>True
 | f::_,0=>f
 | _::r,i+1=>nthF r i
def Stable (f:Value→World→Prop):Prop:=∀ v w w',f v w→Since w w'→f v w'
def AllStable:List (Value→World→Prop)→Prop
 | []=>True
 | f::r=>Stable f∧AllStable r
theorem nthF_stable:∀ (l:List (Value→World→Prop)),AllStable l→∀ i v w w',nthF l i v w→Since w w'→nthF l i v w'
 | [],_,_,_,_,_,_,_=>trivial
 | _::_,h,0,v,w,w',hv,hs=>h.1 v w w' hv hs
 | _::r,h,i+1,v,w,w',hv,hs=>nthF_stable r h.2 i v w w' hv hs
def Is (x:Value) (v:Value) (_:World):Prop:=v=x
def Any (_:Value) (_:World):Prop:=True
def IsNums (k:IntKind) (l:List Int) (v:Value) (w:World):Prop:=Nums k w v l
theorem Is.stable (x:Value):Stable (Is x):=fun _ _ _ h _=>h
theorem IsNums.stable (k:IntKind) (l:List Int):Stable (IsNums k l):=fun _ _ _ h hs=>Nums.keep h hs
theorem wp_region_list_facts {P : Program} {Q : Exit→Act→World→Prop} {l : List Oper} {a0:Act} {w0:World} {id:Nat} (hm:P.follows .mixedOrders=true) (hd:dstsApart l=true) (hb:edgesBack l 0=true) (Fs:List (Value→World→Prop)) (hF:AllStable Fs)
  (hs:Steps1 P l.toArray Q (nthF Fs) a0 w0 l 0)
  (he:∀ vs w,Since w0 w→KnowsAll (nthF Fs) vs w 0 l.length→Q .normal (putAll l 0 vs a0) w):(Code.region id l.toArray true).wp P Q a0 w0:=
 wp_region_facts hm hd hb (nthF Fs) (nthF_stable Fs hF) hs he
end Go.Proofs.Ytkpbmbhejpmboaa
