import Derived.Test.YtimpddecdodddaaGreatSt00
import Derived.Lib.AppendZeros
import Derived.Deep.QuietTactic
import Derived.BigQuiet
namespace Go.Proofs.YtimpddecdodddaaGreat
open Go.Proofs.Tryz Go.RowKit Go.Lib
set_option linter.unusedVariables false
set_option maxHeartbeats 4000000
set_option maxRecDepth 100000
theorem zL {P:Prop} (h:P:=by
 obtain⟨⟨x,hx,ha⟩,h4,_⟩:=hk;rw[hx];have hd:=ha.1;have HC:=hid ha.2;clear ha;unfold Enters at hd;go_wp2_with fail
 refine (HC.out av _ ((H.out.keep ((Since.refl _).alloc _)).keep hs) hl).mono ?_;rintro e w2 ⟨v,rfl,hv,hb⟩;go_wp2
 exact⟨_,rfl,hv,hb⟩):P:=h
theorem zR {P:Prop} (h:P:=by
 go_enter func49,ntmps49
 go_wp2_with fail
 refine (S1.out _).mono ?_;rintro e w1 ⟨rfl,rfl⟩;go_wp2_with fail
 refine (S2.out _).mono ?_;rintro e w1 ⟨rfl,rfl⟩;go_wp2
 go_ret
 exact⟨rfl,((Since.refl _).alloc _).alloc _⟩):P:=h
theorem zZ {P:Prop} (h:P:=by
 obtain⟨h1,h2,_⟩:=hk;obtain⟨a1,c1,e1⟩:=Zc h1;obtain⟨a2,c2,e2⟩:=Zc h2;rw[e1]at h1 ⊢;rw[e2]at h2 ⊢;have H1:=hid h1;clear h1;have H2:=hid h2;clear h2;go_wp2
 exact⟨_,rfl,Vk rfl _ H1.out H2.out,(Since.refl _).alloc _⟩):P:=h
theorem qY {P:Prop} (h:P:=by
 go_wp2_with fail
 refine (HM.out _ ((H.out.keep ((Since.refl _).alloc _)).keep hs)).mono ?_;rintro e w2 ⟨v,rfl,hv,ha⟩;go_wp2
 exact⟨_,rfl,hv,ha⟩):P:=h
theorem yx {P:Prop} (h:P:=by
 go_wp2_with (go_at_call 87;refine (HK.out _).mono ?_;rintro e w2 ⟨x,y,rfl,hx,hy,hb⟩)
 exact⟨_,rfl,⟨x,y,rfl,hx,hy⟩,hb⟩):P:=h
theorem yA {P:Prop} (h:P:=by
 go_enter func32,ntmps32
 go_wp2
 go_ret
 exact Zk ((Since.refl _).alloc _) _ _ (by simp) rfl (by simp[maxLen]) rfl):P:=h
theorem yB {P:Prop} (h:P:=by
 go_enter func59,ntmps59
 go_wp2
 go_ret
 exact Zk ((Since.refl _).alloc _) _ _ (by simp) rfl (by simp[maxLen]) rfl):P:=h
theorem je {P:Prop} (h:P:=by
 rw[e1,e2];clear e1 e2;go_enter func75,ntmps75
 go_wp2
 go_ret2
 exact⟨rfl,rfl⟩):P:=h
theorem jH {P:Prop} (h:P:=by
 go_wp2
 go_ret
 exact⟨_,rfl,hk.2.2.2.2.2.2.1,((Since.refl _).alloc _).trans hs⟩):P:=h
theorem j4 {P:Prop} (h:P:=by
 rintro e w2 ⟨v,rfl,hv,ha⟩;go_wp2
 exact⟨_,rfl,hv,ha⟩):P:=h
theorem ku {P:Prop} (h:P:=by
 go_ret
 exact⟨rfl,(Since.refl _).alloc _⟩):P:=h
theorem kG {P:Prop} (h:P:=by
 go_wp2
 exact⟨_,rfl,hk.1,.refl _⟩):P:=h
theorem kH {P:Prop} (h:P:=by
 go_wp2
 exact⟨_,rfl,rfl,.refl _⟩):P:=h
theorem kJ {P:Prop} (h:P:=by rw[List.take_add_one,h];simp):P:=h
theorem zab {P:Prop} (h:P:=by intro e;rw[e]at hg;simp at hg):P:=h
theorem zaC {P:Prop} (h:P:=by decide +kernel):P:=h
theorem zs2 {P Q:Prop} (q:Q) (f:Q→P:=by
 intro zq hk;simp only[putAll,Act.put,Zp,Zi,Zj,Is,List.setIfInBounds_toArray,List.set_cons_zero,List.set_cons_succ,Nat.reduceAdd,List.length_cons,List.length_nil]at hk ⊢;try simp only[hk]
 first | (revert hk;exact zq) | exact (show True→_ from zq) trivial):P:=f q
def IsKinds (m:Mach) (v:Value) (_:World):Prop:=∃ x y,v=.agg #[.func (.func x) #[] #[],.func (.func y) #[] #[]]∧KindAt x m (takes7 m)∧KindAt y m (makes7 m)
theorem IsKinds.stable (m:Mach):ZH (IsKinds m):=fun _ _ _ h _=>h
def IsPlaces (m:Mach) (l:List Int) (v:Value) (_:World):Prop:=∃ x,v=.func (.func x) #[] #[]∧KindAt x m l
theorem IsPlaces.stable (m:Mach) (l:List Int):ZH (IsPlaces m l):=fun _ _ _ h _=>h
theorem Kt (m:Mach) (av:Value) (w:World) (h:Zd w av m.args) (hl:m.args.length≤1000) :
  Calls prog 60 #[mv m av] w (Yo w (takes7 m)):=by
 have HK:Hid (∀ w,Calls prog 87 #[.int .i64 m.op] w (Qg m w)):=fun w=>KS m w
 have H:=hid h;clear h;unfold mv;go_enter func60,ntmps60
 go_wp2
 refine Zu rfl zaC zaC
  [Is (.pointer (some ⟨w.heap.size,0,none⟩)),Is (.int .i64 m.op),IsKinds m,IsPlaces m (takes7 m),Is (mv m av),Zo .i64 (takes7 m),Zo .i64 (takes7 m)]
  ⟨Is.stable _,Is.stable _,IsKinds.stable _,IsPlaces.stable _ _,Is.stable _,Zo.stable _ _,Zo.stable _ _,trivial⟩ ⟨?_,?_,?_,?_,?_,?_,?_,trivial⟩ ?_
 all_goals
  intro vs w1 hs hk;have hc:∀ i,w1.cell? ⟨w.heap.size,i,none⟩=_:=fun i=>hs.cell (p:=⟨w.heap.size,i,none⟩) zaL
  revert hk;refine zs2 ?_;intro hk
 iterate 2
  ·exact kH
 ·exact yx
 ·obtain⟨⟨x,y,he,hx,hy⟩,_⟩:=hk;rw[he];go_wp2
  rename_i hK
  exact hK _ _ ⟨_,rfl,⟨x,rfl,hx⟩,.refl _⟩
 ·exact kH
 ·exact zL
 ·exact kG
 ·exact jH
theorem KO (m:Mach) (av:Value) (w:World) (h:Zd w av m.args) (hl:m.args.length≤1000) :
  Calls prog 61 #[mv m av] w (Yo w (makes7 m)):=by
 have HK:Hid (∀ w,Calls prog 87 #[.int .i64 m.op] w (Qg m w)):=fun w=>KS m w
 have H:=hid h;clear h;unfold mv;go_enter func61,ntmps61
 go_wp2
 refine Zu rfl zaC zaC
  [Is (.pointer (some ⟨w.heap.size,0,none⟩)),Is (.int .i64 m.op),IsKinds m,IsPlaces m (makes7 m),Is (mv m av),Zo .i64 (makes7 m),Zo .i64 (makes7 m)]
  ⟨Is.stable _,Is.stable _,IsKinds.stable _,IsPlaces.stable _ _,Is.stable _,Zo.stable _ _,Zo.stable _ _,trivial⟩ ⟨?_,?_,?_,?_,?_,?_,?_,trivial⟩ ?_
 all_goals
  intro vs w1 hs hk;have hc:∀ i,w1.cell? ⟨w.heap.size,i,none⟩=_:=fun i=>hs.cell (p:=⟨w.heap.size,i,none⟩) zaL
  revert hk;refine zs2 ?_;intro hk
 iterate 2
  ·exact kH
 ·exact yx
 ·obtain⟨⟨x,y,he,hx,hy⟩,_⟩:=hk;rw[he];go_wp2
  rename_i hK
  exact hK _ _ ⟨_,rfl,⟨y,rfl,hy⟩,.refl _⟩
 ·exact kH
 ·exact zL
 ·exact kG
 ·exact jH
def takes (m:Mach):List Int:=if m.op=2 then [m.a,m.b] else if m.op=30 then [16+m.imm] else takes7 m
def makes (m:Mach):List Int:=if m.op=2 then [m.a,m.b] else if m.op=31 then [16+m.imm] else makes7 m
def Yy (m:Mach):List Int:=if m.op=28 then [1,2,3] else []
def Xt (m:Mach):Prop:=-2147483648≤m.imm∧m.imm≤2147483647∧m.args.length≤1000
theorem Je (m:Mach) (av:Value) (w:World) (h:Zd w av m.args) (hf:Xt m) :
  Calls prog 59 #[mv m av] w (Yo w (takes m)):=by
 obtain⟨h1,h2,hl⟩:=hf;have H:=hid h;clear h;have HC:Hid (∀ w,Zd w av m.args→Calls prog 60 #[mv m av] w (Yo w (takes7 m))):=fun w h=>Kt m av w h hl
 unfold mv at HC ⊢;by_cases g1:m.op=2
 ·have e:takes m=[m.a,m.b]:=by unfold takes;rw[if_pos g1]
  rw[e];clear e;have g1':(m.op==2)=true:=by simpa using g1
  clear g1;exact yB
 ·have g1':(m.op==2)=false:=by simpa using g1
  by_cases g2:m.op=30
  ·have e:takes m=[16+m.imm]:=by unfold takes;rw[if_neg g1,if_pos g2]
   rw[e];clear e;have g2':(m.op==30)=true:=by simpa using g2
   clear g1 g2;exact yB
  ·have e:takes m=takes7 m:=by unfold takes;rw[if_neg g1,if_neg g2]
   rw[e];clear e;have g2':(m.op==30)=false:=by simpa using g2
   clear g1 g2;go_enter func59,ntmps59
   go_wp2_with (go_at_call 60;refine (HC.out _ (H.out.keep ((Since.refl _).alloc _))).mono ?_;rintro e w1 ⟨v,rfl,hv,hs⟩)
   exact j2
theorem QS (m:Mach) (av:Value) (w:World) (h:Zd w av m.args) (hf:Xt m) :
  Calls prog 32 #[mv m av] w (Yo w (makes m)):=by
 obtain⟨h1,h2,hl⟩:=hf;have H:=hid h;clear h;have HC:Hid (∀ w,Zd w av m.args→Calls prog 61 #[mv m av] w (Yo w (makes7 m))):=fun w h=>KO m av w h hl
 unfold mv at HC ⊢;by_cases g1:m.op=2
 ·have e:makes m=[m.a,m.b]:=by unfold makes;rw[if_pos g1]
  rw[e];clear e;have g1':(m.op==2)=true:=by simpa using g1
  clear g1;exact yA
 ·have g1':(m.op==2)=false:=by simpa using g1
  by_cases g2:m.op=31
  ·have e:makes m=[16+m.imm]:=by unfold makes;rw[if_neg g1,if_pos g2]
   rw[e];clear e;have g2':(m.op==31)=true:=by simpa using g2
   clear g1 g2;exact yA
  ·have e:makes m=makes7 m:=by unfold makes;rw[if_neg g1,if_neg g2]
   rw[e];clear e;have g2':(m.op==31)=false:=by simpa using g2
   clear g1 g2;go_enter func32,ntmps32
   go_wp2_with (go_at_call 61;refine (HC.out _ (H.out.keep ((Since.refl _).alloc _))).mono ?_;rintro e w1 ⟨v,rfl,hv,hs⟩)
   exact j2
theorem ZbD (m:Mach) (av:Value) (w:World):Calls prog 31 #[mv m av] w (Yo w (Yy m)):=by
 unfold mv Yy;by_cases g:m.op=28
 ·rw[if_pos g];have g':(m.op==28)=true:=by simpa using g
  clear g;go_enter func31,ntmps31
  exact jx
 ·rw[if_neg g];have g':(m.op==28)=false:=by simpa using g
  clear g;go_enter func31,ntmps31
  exact kr
theorem JW (m:Mach) (av:Value) (w:World):Calls prog 115 #[mv m av] w (Yo w (Yy m)):=by
 unfold mv Yy;by_cases g:m.op=28
 ·rw[if_pos g];have g':(m.op==28)=true:=by simpa using g
  clear g;go_enter func115,ntmps115
  exact jx
 ·rw[if_neg g];have g':(m.op==28)=false:=by simpa using g
  clear g;go_enter func115,ntmps115
  exact kr
abbrev W:=BitVec 32
def far (b:W):Nat:=b.toNat % 32
structure PlV where
 m:Mach
 av:Value
 src:Int
structure ZY where
 op:Int
 a:Int
 b:Int
 «to» : List Int
 tov:Value
 imm:Int
structure Zx where
 ins:List PlV
 insv:Value
 fin:ZY
structure Z2 where
 params:Int
 k:Int
 slots:Int
 blocks:List Zx
 bv:Value
def Yg (m:Mach):List Int:=if m.op=30∨m.op=31 then takes7 m++makes7 m else takes m++makes m
def Yi (k:Int) (l:List Int):Bool:=l.any fun r=>decide (r<0)||decide (k≤r)
def YX:List Int→Nat→Bool
 | [],_=>true
 | r::l,n=>r==(n:Int)&&YX l (n+1)
def shapeB (m:Mach):Bool:=
 if m.op=28 then YX m.args 0&&decide (m.args.length≤4)&&m.d==0
 else if m.op=29 then m.d==0&&m.e==1
 else decide (1≤m.op)&&decide (m.op≤31)
def Yh (m:Mach):Bool:=
 if m.op=3 then decide (-32768≤m.imm)&&decide (m.imm≤32767)
 else if m.op=18∨m.op=19 then decide (-128≤m.imm)&&decide (m.imm≤127)
 else if m.op=20∨m.op=21∨m.op=22 then decide (0≤m.imm)&&decide (m.imm≤31)
 else if m.op=24∨m.op=26 then decide (0≤m.imm)&&decide (m.imm≤255)
 else true
def ZM (m:Mach):Bool:=m.op==30||m.op==31
def Y9 (m:Mach) (k slots:Int):Int:=
 if shapeB m=false then 30 else if Yi k (Yg m)=true then 31
 else if ZM m&&(decide (m.imm<0)||decide (slots≤m.imm)) then 43 else if Yh m=false then 32 else 0
def needs (e:ZY):List Int:=
 if e.op=2∨e.op=6∨(e.op=7∧0≤e.a) then [e.a] else if 3≤e.op∧e.op≤5 then [e.a,e.b] else []
def Ya (e:ZY):Bool:=
 if e.op=1 then decide (e.to.length=1)
 else if 2≤e.op∧e.op≤5 then decide (e.to.length=2)
 else if e.op=6 then decide (2≤e.to.length)&&decide (e.to.length≤65)
 else if e.op=7∨e.op=8 then decide (e.to.length=0) else false
def ZL (e:ZY) (k:Int):Bool:=(needs e).any fun r=>decide (r<0)||decide (k≤r)||(e.op==7&&decide (0<r))
def Yf (n:Int) (l:List Int):Bool:=l.any fun t=>decide (t<1)||decide (n≤t)
def endE (e:ZY) (k n:Int):Int:=
 if Ya e=false then 30 else if ZL e k=true then 31 else if Yf n e.to=true then 14 else 0
def ptotal (l:List Zx):Nat:=l.length+(l.map fun b=>b.ins.length).sum
def Y3 (k slots:Int):List PlV→Nat→Option (Int × Nat)
 | [],_=>none
 | x::r,i=>if Y9 x.m k slots=0 then Y3 k slots r (i+1) else some (Y9 x.m k slots,i)
def Vf (k slots n:Int) (b:Zx):Option (Int × Nat):=
 match Y3 k slots b.ins 0 with
 | some x=>some x
 | none=>if endE b.fin k n=0 then none else some (endE b.fin k n,b.ins.length)
def X1 (k slots n:Int):List Zx→Nat→Option (Int × Nat × Nat)
 | [],_=>none
 | b::r,j=>match Vf k slots n b with
  | some x=>some (x.1,j,x.2)
  | none=>X1 k slots n r (j+1)
def Vr (p:Z2):Int:=
 if p.params<0∨4<p.params∨p.k<4∨16<p.k∨p.slots<0∨16384<p.slots then 1
 else if p.blocks.length=0 then 14
 else if 512<p.blocks.length∨65536<ptotal p.blocks then 2 else 0
def funcE (p:Z2):Int × Nat × Nat:=
 if Vr p=0 then (X1 p.k p.slots p.blocks.length p.blocks 0).getD (0,0,0) else (Vr p,0,0)
def rightB (p:Z2):Bool:=(funcE p).1==0
def Zfa (r:List Int) (i:Int):Int:=if 0≤i∧i<(r.length:Int) then r.getD i.toNat 0 else 0
def ZfE (e:ZY) (r:List Int):Nat:=
 let a:=Zfa r e.a
 let b:=Zfa r e.b
 if e.op=1 then 0
 else if e.op=2 then (if a=0 then 1 else 0)
 else if e.op=3 then (if a=b then 0 else 1)
 else if e.op=4 then (if a<b then 0 else 1)
 else if e.op=5 then (if a % 4294967296<b % 4294967296 then 0 else 1)
 else if a % 4294967296<(e.to.length:Int)-1 then (a % 4294967296).toNat else e.to.length-1
structure InV where
 args:List Int
 argsv:Value
 mem:List Int
 memv:Value
 ans:List Int
 ansv:Value
 steps:Int
def Zfw (w:World) (e:Ending) (w':World):Prop:=∃ v,e=.returned v∧w'.ownsRow w.heap.size 3 1 v ([]:List Int).length (([]:List Int).map (Value.int .i64))∧Since w w'
theorem ZdV (n:Nat) (w:World) (hn:n≤100000):Calls prog 86 #[.slice none 0 0,.int .i64 n] w (Zfw w):=by
 rcases Nat.eq_zero_or_pos n with rfl|hp
 ·go_enter func86,ntmps86
  go_wp2
  go_ret
  exact⟨_,rfl,W5 _ _ _ _,.refl _⟩
 ·obtain⟨i0,hi,he,hd,hc⟩:=info_parts Tryz.info3;have ha:n*i0.bytes≤281474976710656:=by rw[hc];omega
  have hb:=Lib.run_append_nil_zeros (P:=prog) w 22 3 22 3 i0 (.int .i64 0) .i64 .i64 underlying22 underlying3 hi he n hp (by rw[hd];decide) zaK ha;have hk:=grownCap_ge w n 0 3;have hf:=grownCap_le_maxLen w n 0 3 zaq;generalize hg:grownCap w n 0 3=cap at *;have HA:=hid hb;clear hb;have hh:cap≤9223372036854775807:=by unfold maxLen at hf;omega
  have hj:(0:Int)<(n:Int):=zaK
  clear hg he hd hc hi ha;go_enter func86,ntmps86
  go_wp2_with (at_builtin;refine Lib.wpList_append_run _ rfl _ _ _ _ rfl _ _ rfl rfl _ _ HA.out ?_)
  go_ret
  refine⟨_,rfl,⟨rfl,.inr ⟨w.heap.size,cap,_,rfl,Nat.le_refl _,(MapKept.heap_alloc w.drew _).1,Nat.zero_le _,hf,?_,?_⟩⟩,(Since.refl w).drew.alloc _⟩
  ·simp only[Array.size_append,size_zeroCells];simp;omega
  ·rfl
def Qd (w:World) (v:Value) (rows:List (Value × List Int)):Prop:=
 ∃ b off cap,v=.slice (some ⟨b,off,none⟩) rows.length cap∧b<w.heap.size∧∀ (j:Nat) (x:Value × List Int),rows[j]? = some x→w.cell? ⟨b,off+j,none⟩=some x.1∧Zy .i64 w x.1 x.2
def total (rows:List (Value × List Int)):Nat:=(rows.map fun x=>x.2.length).sum
def joined (rows:List (Value × List Int)):List Int:=(rows.map fun x=>x.2).flatten
theorem ZbB (rows:List (Value × List Int)) (k:Nat) (x:Value × List Int) (h:rows[k]? = some x):total (rows.take (k+1))=total (rows.take k)+x.2.length:=by
 unfold total;exact kJ
theorem Zbg (rows:List (Value × List Int)) (k:Nat) (x:Value × List Int) (h:rows[k]? = some x):joined (rows.take (k+1))=joined (rows.take k)++x.2:=by
 unfold joined;exact kJ
theorem Zaf (rows:List (Value × List Int)):(joined rows).length=total rows:=by
 unfold joined total;rw[List.length_flatten,List.map_map];rfl
theorem VP (rows:List (Value × List Int)) (k:Nat):total (rows.take k)≤total rows:=by
 have:total rows=total (rows.take k)+total (rows.drop k):=by
  unfold total;rw[←List.sum_append,←List.map_append,List.take_append_drop]
 omega
theorem Zc {k : IntKind} {w : World} {v : Value} {l : List Int} (h:Zy k w v l):∃ a cap,v=.slice a l.length cap:=by
 rcases h with ⟨_,h1,rfl⟩|⟨b,off,cap,h1,_⟩;iterate 2
  ·exact⟨_,_,h1⟩
theorem WX (v:Value) (rows:List (Value × List Int)) (w:World) (h:Qd w v rows) (hn:rows.length≤1000) (ht:total rows≤100000) :
  Calls prog 58 #[v] w (Yo w (joined rows)):=by
 obtain⟨b,off,cap,rfl,hb,hg⟩:=h;have HC:=hid hg;clear hg;go_enter func58,ntmps58
 go_wp2_with fail
 go_loop [3,11] (fun s i=>∃ k:Nat,k≤rows.length∧i=.int .i64 k∧s=.int .i64 (total (rows.take k):Nat)) (fun _ i=>rows.length-(intOf i).toNat)
 case atStart=>exact⟨0,zaK,rfl,rfl⟩
 case round =>
  obtain⟨k,hk,rfl,rfl⟩:=hrel;have hm:=VP rows k;by_cases hh:k<rows.length
  ·obtain⟨x,hx⟩:∃ x,rows[k]? = some x:=⟨_,List.getElem?_eq_getElem hh⟩
   obtain⟨hc,hd⟩:=HC.out k x hx;obtain⟨a,c,hv⟩:=Zc hd;have hs:=ZbB rows k x hx;have hu:=VP rows (k+1);rw[hv]at hc;have HS:=hid hs;generalize total (rows.take k)=t at *;clear hs;have hw:t+x.2.length≤100000:=by have:=HS.out;omega
   go_wp2_with fail
   go_round
   case rel=>exact⟨k+1,zaK,by go_num,by rw[HS.out];go_num⟩
   case measure=>simp[intOf];omega
  ·obtain rfl:k=rows.length:=zaK
   rw[List.take_length];go_wp2_with fail
   refine (ZdV _ _ ht).mono ?_;rintro e w1 ⟨g,rfl,ho,hr⟩;go_wp2_with fail
   go_loopw [6,27] (fun s i wr=>∃ k:Nat,k≤rows.length∧i=.int .i64 k∧wr.ownsRow w.heap.size 3 1 s (joined (rows.take k)).length ((joined (rows.take k)).map (Value.int .i64))∧Since w wr) (fun _ i _=>rows.length-(intOf i).toNat)
   case atStart=>exact⟨0,zaK,rfl,ho,hr⟩
   case round =>
    obtain⟨k,hk,rfl,ha,he⟩:=hrel;by_cases hh:k<rows.length
    ·obtain⟨x,hx⟩:∃ x,rows[k]? = some x:=⟨_,List.getElem?_eq_getElem hh⟩
     obtain⟨hc,hd⟩:=HC.out k x hx;have hi:=Zbg rows k x hx;have hl:=Zaf (rows.take (k+1));have hu:=VP rows (k+1);rw[hi,List.length_append]at hl;have HJ:=hid hi;generalize joined (rows.take k)=jk at *;clear hi;have hp:jk.length+x.2.length≤1000000:=zaK
     clear hl;have hy:wr.cell? ⟨b,off+k,none⟩=some x.1:=by rw[he.cell hb];exact hc
     have hf:=hd.keep he;have HN:=hid hf;have HO:=hid ha;clear hd hf ha hc;go_wp2_with (at_builtin;refine ZQ (w0:=w) .i64 rfl _ _ 22 rfl 3 (.int .i64 0) 8 underlying22 Tryz.info3 rfl zaJ _ _ jk x.2 rfl rfl HO.out HN.out hp he ?_;intro v' w' hj hq)
     go_roundw
     case rel=>exact⟨k+1,zaK,by go_num,by rw[HJ.out];exact hj,hq⟩
     case measure=>simp[intOf];omega
    ·obtain rfl:k=rows.length:=zaK
     rw[List.take_length]at ha;go_wp2_with fail
     go_ret
     exact⟨_,rfl,ZB ha,he⟩
def changes (m:Mach):List Int:=makes m++Yy m
theorem Ks (m:Mach) (h:m.args.length≤1000):(takes7 m).length≤1000:=by
 unfold takes7;repeat' split
 all_goals first | exact h | simp
theorem KM (m:Mach):(makes7 m).length≤2:=by
 unfold makes7;repeat' split
 all_goals simp
theorem Jc (m:Mach) (h:m.args.length≤1000):(takes m).length≤1000:=by
 unfold takes;repeat' split
 all_goals first | exact Ks m h | simp
theorem Wj (m:Mach):(makes m).length≤2:=by
 unfold makes;repeat' split
 all_goals first | exact KM m | simp
theorem WP (m:Mach):(Yy m).length≤3:=by
 unfold Yy;split<;>simp
theorem Zbk (m:Mach):(changes m).length≤5:=by
 unfold changes;rw[List.length_append];have:=Wj m;have:=WP m;omega
theorem Qd.keep {w w':World} {v : Value} {rows:List (Value × List Int)} (h:Qd w v rows) (s:Since w w'):Qd w' v rows:=by
 obtain⟨b,off,cap,h1,h2,h3⟩:=h;exact⟨b,off,cap,h1,Nat.lt_of_lt_of_le h2 s.size,fun j x hj=>⟨by rw[s.cell h2];exact (h3 j x hj).1,(h3 j x hj).2.keep s⟩⟩
def XV (l1 l2:List Int) (v:Value) (w:World):Prop:=∃ v1 v2,Qd w v [(v1,l1),(v2,l2)]
theorem XV.stable (l1 l2:List Int):ZH (XV l1 l2):=fun _ _ _ ⟨v1,v2,h⟩ hs=>⟨v1,v2,h.keep hs⟩
theorem Vk {w : World} {b : Nat} (hb : b = w.heap.size) (t : TypeId) {v1 v2 : Value} {l1 l2 : List Int} (h1 : Zy .i64 w v1 l1) (h2 : Zy .i64 w v2 l2) : XV l1 l2 (.slice (some ⟨b, 0, none⟩) 2 2) (w.alloc (.cells #[v1, v2] t)) := by
  subst hb
  refine ⟨v1, v2, w.heap.size, 0, 2, rfl, by simp, fun j x hj => ?_⟩
  have hs : Since w (w.alloc (.cells #[v1, v2] t)) := (Since.refl w).alloc _
  match j, hj with
  | 0, hj => obtain rfl : (v1, l1) = x := by simpa using hj
             exact ⟨by unfold World.cell?; rw [show (w.alloc (.cells #[v1, v2] t)).heap[w.heap.size]? = _ from ZG _ _]; rfl, h1.keep hs⟩
  | 1, hj => obtain rfl : (v2, l2) = x := by simpa using hj
             exact ⟨by unfold World.cell?; rw [show (w.alloc (.cells #[v1, v2] t)).heap[w.heap.size]? = _ from ZG _ _]; rfl, h2.keep hs⟩
  | j + 2, hj => simp at hj
theorem J9 (m:Mach) (av:Value) (w:World) (h:Zd w av m.args) (hf:Xt m) :
  Calls prog 76 #[mv m av] w (Yo w (changes m)):=by
 have H:=hid h;clear h;have HM:Hid (∀ w,Zd w av m.args→Calls prog 32 #[mv m av] w (Yo w (makes m))):=fun w h=>QS m av w h hf
 have HS:Hid (∀ w,Calls prog 31 #[mv m av] w (Yo w (Yy m))):=fun w=>ZbD m av w
 have HL:Hid (total [((.nilFunc:Value),makes m),(.nilFunc,Yy m)]≤100000):=by
  have:=Wj m;have:=WP m;unfold Hid total;simp;omega
 have e:changes m=joined [((.nilFunc:Value),makes m),(.nilFunc,Yy m)]:=by simp[changes,joined]
 rw[e];clear e;unfold mv;go_enter func76,ntmps76
 go_wp2
 refine Zu rfl zaC zaC
  [Is (mv m av),Zo .i64 (makes m),Is (mv m av),Zo .i64 (Yy m),XV (makes m) (Yy m),Zo .i64 (joined [((.nilFunc:Value),makes m),(.nilFunc,Yy m)]),Zo .i64 (joined [((.nilFunc:Value),makes m),(.nilFunc,Yy m)])]
  ⟨Is.stable _,Zo.stable _ _,Is.stable _,Zo.stable _ _,XV.stable _ _,Zo.stable _ _,Zo.stable _ _,trivial⟩ ⟨?_,?_,?_,?_,?_,?_,?_,trivial⟩ ?_
 all_goals
  intro vs w1 hs hk;have hc:∀ i,w1.cell? ⟨w.heap.size,i,none⟩=_:=fun i=>hs.cell (p:=⟨w.heap.size,i,none⟩) zaL
  revert hk;refine zs2 ?_;intro hk
 ·exact kH
 ·exact qY
 ·exact kH
 ·go_wp2_with fail
  refine (HS.out _).mono ?_;exact j4
 ·exact zZ
 ·obtain⟨⟨v1,v2,h1⟩,_⟩:=hk;have H1:=hid h1;clear h1;go_wp2_with fail
  refine (WX _ _ _ H1.out zaL HL.out).mono ?_;exact j4
 ·exact kG
 ·exact jH
def AtPost (p:Bool) (w:World) (e:Ending) (w':World):Prop:=∃ r:Int,e=.returned (.int .i64 r)∧decide (0≤r)=p∧w=w'
theorem Zbw {w : World} {r : Int} (h:0≤r):AtPost true w (.returned (.int .i64 r)) w:=⟨r,rfl,by simp[h],rfl⟩
theorem Zbx {w : World}:AtPost false w (.returned (.int .i64 (-1))) w:=⟨-1,rfl,zaJ,rfl⟩
theorem Zr {k : IntKind} {w : World} {a : Option Addr} {len cap:Nat} {l : List Int} (h:Zy k w (.slice a len cap) l):len=l.length∧(l≠[]→∃ b off,a=some ⟨b,off,none⟩∧b<w.heap.size∧∀ (j:Nat) (n:Int),l[j]? = some n→w.cell? ⟨b,off+j,none⟩=some (.int k n)):=by
 rcases h with ⟨_,h1,h2⟩|⟨b,off,cap',h1,_,_,hb,hc⟩
 ·cases h1;subst h2;exact⟨rfl,fun h=>absurd rfl h⟩
 ·cases h1;exact⟨rfl,fun _=>⟨b,off,rfl,hb,hc⟩⟩
theorem WY {α:Type} {p : α→Bool} {l : List α} {k : Nat} (hk:k=l.length) (h:∀ j x,j<k→l[j]? = some x→p x=false):l.any p=false:=by
 rw[List.any_eq_false];intro x hx;obtain⟨j,hj,rfl⟩:=List.getElem_of_mem hx;simp[h j l[j] zaK (by simp[hj])]
theorem K8 {α:Type} {p : α→Bool} {l : List α} {k : Nat} {x : α} (h:l[k]? = some x) (hp:p x=true):l.any p=true:=List.any_eq_true.2 ⟨x,List.mem_of_getElem? h,hp⟩
theorem Zc8 (v:Value) (l:List Int) (x:Int) (w:World) (h:Zy .i64 w v l) :
  Calls prog 134 #[v,.int .i64 x] w (AtPost (l.any fun y=>x==y) w):=by
 have hm:=h.len;obtain⟨a,cap,rfl⟩:=Zc h;obtain⟨_,hc⟩:=Zr h;have HC:=hid hc;clear hc h;unfold maxLen at hm;go_enter func134,ntmps134
 go_wp2
 go_loop [8] (fun i=>∃ k:Nat,k≤l.length∧i=.int .i64 k∧∀ j y,j<k→l[j]? = some y→(x==y)=false) (fun i=>l.length-(intOf i).toNat)
 case atStart=>exact⟨0,Nat.zero_le _,rfl,fun _ _ h=>by omega⟩
 case round =>
  obtain⟨k,hk,rfl,hd⟩:=hrel;by_cases hg:k<l.length
  ·obtain⟨y,hy⟩:∃ y,l[k]? = some y:=⟨_,List.getElem?_eq_getElem hg⟩
   obtain⟨b,off,rfl,hb,hf⟩:=HC.out zab;have hc:=hf k y hy;have HY:=hid hy;have hh:=hid hd;clear hf hy hd;by_cases he:(x==y)=true
   ·have ha:=K8 (p:=fun y=>x==y) HY.out he;have HF:=hid ha;clear ha;go_wp2
    go_ret
    rw[HF.out];exact Zbw zaK
   ·have he:(x==y)=false:=by simpa using he
    go_wp2
    go_round
    case rel =>
     refine⟨k+1,zaK,by go_num,fun j z hj hz=>?_⟩;by_cases e:j=k
     ·subst e;have:=HY.out.symm.trans hz;cases this;exact he
     ·exact hh.out j z zaK hz
    case measure=>simp[intOf];omega
  ·obtain rfl:k=l.length:=zaK
   have ha:=WY (p:=fun y=>x==y) rfl hd;have HF:=hid ha;clear ha hd;go_wp2
   go_ret
   rw[HF.out];exact Zbx
def Tells (p:Bool) (w:World) (e:Ending) (w':World):Prop:=e=.returned (.bool p)∧w=w'
theorem ZaW (v:Value) (l:List Int) (x:Int) (w:World) (h:Zy .i64 w v l) :
  Calls prog 100 #[v,.int .i64 x] w (Tells (l.any fun y=>x==y) w):=by
 go_enter func100,ntmps100
 go_wp2_with (go_at_call 134;refine (Zc8 _ _ _ _ h).mono ?_;rintro e w1 ⟨r,rfl,hr,rfl⟩)
 go_ret
 exact⟨by rw[←hr];rfl,rfl⟩
theorem Zbj (x:Int) (p:Addr) (bv:Value) (lb:List Int) (w:World) (hp:w.cell? p=some bv) (hb:Zy .i64 w bv lb) :
  Calls prog 99 #[.int .i64 x,.pointer (some p)] w (Tells (lb.any fun y=>x==y) w):=by
 obtain⟨a,cap,rfl⟩:=Zc hb;have HB:=hid hb;clear hb;go_enter func99,ntmps99
 go_wp2_with (go_at_call 100;refine (ZaW _ _ _ _ HB.out).mono ?_;rintro e w1 ⟨rfl,rfl⟩)
 go_ret
 exact⟨rfl,rfl⟩
def meetB (l lb:List Int):Bool:=l.any fun x=>lb.any fun y=>x==y
theorem Zag (v:Value) (l:List Int) (p:Addr) (bv:Value) (lb:List Int) (w:World) (h:Zy .i64 w v l) (hp:w.cell? p=some bv) (hb:Zy .i64 w bv lb) :
  Calls prog 133 #[v,.func (.func 99) #[] #[.pointer (some p)]] w (AtPost (meetB l lb) w):=by
 have hm:=h.len;obtain⟨a,cap,rfl⟩:=Zc h;obtain⟨_,hc⟩:=Zr h;have HC:=hid hc;clear hc h;have hg:Hid (∀ x,Calls prog 99 #[.int .i64 x,.pointer (some p)] w (Tells (lb.any fun y=>x==y) w)):=fun x=>Zbj x p bv lb w hp hb
 clear hp hb;unfold maxLen at hm;unfold meetB;generalize hq:(fun x=>lb.any fun y=>x==y)=q at *;have hi:∀ x,(lb.any fun y=>x==y)=q x:=fun x=>by rw[←hq]
 have HQ:=hid hi;clear hq hi;go_enter func133,ntmps133
 go_wp2
 go_loop [8] (fun i=>∃ k:Nat,k≤l.length∧i=.int .i64 k∧∀ j y,j<k→l[j]? = some y→q y=false) (fun i=>l.length-(intOf i).toNat)
 case atStart=>exact⟨0,Nat.zero_le _,rfl,fun _ _ h=>by omega⟩
 case round =>
  obtain⟨k,hk,rfl,hd⟩:=hrel;by_cases hh:k<l.length
  ·obtain⟨y,hy⟩:∃ y,l[k]? = some y:=⟨_,List.getElem?_eq_getElem hh⟩
   obtain⟨b,off,rfl,hb,hf⟩:=HC.out (by intro e;rw[e]at hh;simp at hh);have hc:=hf k y hy;have HY:=hid hy;have hl:=hid hd;clear hf hy hd;by_cases he:q y=true
   ·have ha:=K8 (p:=q) HY.out he;have HF:=hid ha;clear ha;have HE:=hid he;clear he;go_wp2_with (go_at_call 99;refine (hg.out y).mono ?_;rw[HQ.out,HE.out];rintro e w1 ⟨rfl,rfl⟩)
    go_ret
    rw[HF.out];exact Zbw zaK
   ·have he:q y=false:=by simpa using he
    have HE:=hid he;clear he;go_wp2_with (go_at_call 99;refine (hg.out y).mono ?_;rw[HQ.out,HE.out];rintro e w1 ⟨rfl,rfl⟩)
    go_round
    case rel =>
     refine⟨k+1,zaK,by go_num,fun j z hj hz=>?_⟩;by_cases e:j=k
     ·subst e;have:=HY.out.symm.trans hz;cases this;exact HE.out
     ·exact hl.out j z zaK hz
    case measure=>simp[intOf];omega
  ·obtain rfl:k=l.length:=zaK
   have ha:=WY (p:=q) rfl hd;have HF:=hid ha;clear ha hd;go_wp2
   go_ret
   rw[HF.out];exact Zbx
theorem Kl (v:Value) (l:List Int) (p:Addr) (bv:Value) (lb:List Int) (w:World) (h:Zy .i64 w v l) (hp:w.cell? p=some bv) (hb:Zy .i64 w bv lb) :
  Calls prog 98 #[v,.func (.func 99) #[] #[.pointer (some p)]] w (Tells (meetB l lb) w):=by
 have ha:=hid (Zag v l p bv lb w h hp hb);clear h hp hb;go_enter func98,ntmps98
 go_wp2_with (go_at_call 133;refine ha.out.mono ?_;rintro e w1 ⟨r,rfl,hr,rfl⟩)
 go_ret
 exact⟨by rw[←hr];rfl,rfl⟩
def ZD (p:Bool) (w:World) (e:Ending) (w':World):Prop:=e=.returned (.bool p)∧Since w w'
theorem V1 (v bv:Value) (l lb:List Int) (w:World) (h:Zy .i64 w v l) (hb:Zy .i64 w bv lb) :
  Calls prog 77 #[v,bv] w (ZD (meetB l lb) w):=by
 obtain⟨a2,cap2,rfl⟩:=Zc hb;have ha:(w.alloc (.cells #[.slice a2 lb.length cap2] 22)).cell? ⟨w.heap.size,0,none⟩=some (.slice a2 lb.length cap2):=by unfold World.cell?;rw[show (w.alloc (.cells #[.slice a2 lb.length cap2] 22)).heap[w.heap.size]? = _ from ZG _ _];rfl
 have HC:=hid (Kl v l ⟨w.heap.size,0,none⟩ _ lb _ (h.keep ((Since.refl _).alloc _)) ha (hb.keep ((Since.refl _).alloc _)));clear h hb ha;go_enter func77,ntmps77
 go_wp2_with (go_at_call 98;refine HC.out.mono ?_;rintro e w1 ⟨rfl,rfl⟩)
 exact ku
def strictB (op:Int):Bool:=op==24||op==25||op==28||op==26||op==27||op==17
def loadB (op:Int):Bool:=op==24||op==25
def Zw (m n:Mach):Bool:=
 (strictB m.op&&strictB n.op&&!(loadB m.op&&loadB n.op))||meetB (changes m) (changes n)||meetB (changes m) (takes n)||meetB (changes n) (takes m)
def Two (p q:Bool) (w:World) (e:Ending) (w':World):Prop:=e=.returned (.tuple #[.bool p,.bool q])∧w=w'
theorem Kv (op:Int) (w:World):Calls prog 75 #[.int .i64 op] w (Two (strictB op) (loadB op) w):=by
 by_cases g24:op=24
 ·subst g24;have e1:strictB 24=true:=rfl;have e2:loadB 24=true:=rfl;exact je
 by_cases g25:op=25
 ·subst g25;have e1:strictB 25=true:=rfl;have e2:loadB 25=true:=rfl;exact je
 by_cases g28:op=28
 ·subst g28;have e1:strictB 28=true:=rfl;have e2:loadB 28=false:=rfl;exact je
 by_cases g26:op=26
 ·subst g26;have e1:strictB 26=true:=rfl;have e2:loadB 26=false:=rfl;exact je
 by_cases g27:op=27
 ·subst g27;have e1:strictB 27=true:=rfl;have e2:loadB 27=false:=rfl;exact je
 by_cases g17:op=17
 ·subst g17;have e1:strictB 17=true:=rfl;have e2:loadB 17=false:=rfl;exact je
 have e1:strictB op=false:=by simp[strictB,g24,g25,g28,g26,g27,g17]
 have e2:loadB op=false:=by simp[loadB,g24,g25]
 have n24:(op==24)=false:=by simpa using g24
 have n25:(op==25)=false:=by simpa using g25
 have n28:(op==28)=false:=by simpa using g28
 have n26:(op==26)=false:=by simpa using g26
 have n27:(op==27)=false:=by simpa using g27
 have n17:(op==17)=false:=by simpa using g17
 rw[e1,e2];clear e1 e2 g24 g25 g28 g26 g27 g17;go_enter func75,ntmps75
 go_wp2
 go_ret2
 exact⟨rfl,rfl⟩
theorem XF (m n:Mach) (av bv:Value) (w:World) (h:Zd w av m.args) (h2:Zd w bv n.args) (hf:Xt m) (hj:Xt n) :
  Calls prog 49 #[mv m av,mv n bv] w (ZD (Zw m n) w):=by
 have H:=hid h;clear h;have H2:=hid h2;clear h2;have HX:=hid (fun w h=>J9 m av w h hf);have HY:=hid (fun w h=>J9 n bv w h hj);have ho:=hid (fun w h=>Je m av w h hf);have hn:=hid (fun w h=>Je n bv w h hj);clear hf hj;have S1:=hid (fun w=>Kv m.op w);have S2:=hid (fun w=>Kv n.op w);unfold Zw;have hl:(strictB m.op=false)∨(strictB m.op=true∧strictB n.op=false)∨(strictB m.op=true∧strictB n.op=true∧loadB m.op=false)∨(strictB m.op=true∧strictB n.op=true∧loadB m.op=true∧loadB n.op=false)∨(strictB m.op=true∧strictB n.op=true∧loadB m.op=true∧loadB n.op=true):=by
  cases strictB m.op<;>cases strictB n.op<;>cases loadB m.op<;>cases loadB n.op<;>simp
 generalize strictB m.op=s1 at *;generalize strictB n.op=s2 at *;generalize loadB m.op=l1 at *;generalize loadB n.op=l2 at *;unfold mv at HX HY ho hn ⊢;rcases hl with rfl|⟨rfl,rfl⟩|⟨rfl,rfl,rfl⟩|⟨rfl,rfl,rfl,rfl⟩|⟨rfl,rfl,rfl,rfl⟩
 case' inr.inr.inl =>
  exact zR
 case' inr.inr.inr.inl =>
  exact zR
 all_goals
  simp only[Bool.false_and,Bool.and_false,Bool.and_true,Bool.not_true,Bool.false_or];go_enter func49,ntmps49
  go_wp2_with fail
  refine (S1.out _).mono ?_;rintro e w1 ⟨rfl,rfl⟩;go_wp2_with fail
  refine (S2.out _).mono ?_;rintro e w1 ⟨rfl,rfl⟩;go_wp2
  refine Zu rfl zaC zaC
   [Is (mv m av),Zo .i64 (changes m),Is (mv n bv),Zo .i64 (changes n),Zo .i64 (changes m),Zo .i64 (changes n)]
   ⟨Is.stable _,Zo.stable _ _,Is.stable _,Zo.stable _ _,Zo.stable _ _,Zo.stable _ _,trivial⟩ ⟨?_,?_,?_,?_,?_,?_,trivial⟩ ?_
  all_goals
   intro vs w1 hs hk;have hr:∀ i,w1.cell? ⟨w.heap.size,i,none⟩=_:=fun i=>hs.cell (p:=⟨w.heap.size,i,none⟩) zaE
   have hq:∀ i,w1.cell? ⟨w.heap.size+1,i,none⟩=_:=fun i=>hs.cell (p:=⟨w.heap.size+1,i,none⟩) zaL
   revert hk;refine zs2 ?_;intro hk
  ·exact kH
  ·go_wp2_with fail
   refine (HX.out _ ((H.out.keep (((Since.refl _).alloc _).alloc _)).keep hs)).mono ?_;exact j4
  ·exact kH
  ·go_wp2_with fail
   refine (HY.out _ ((H2.out.keep (((Since.refl _).alloc _).alloc _)).keep hs)).mono ?_;exact j4
  iterate 2
   ·exact kG
  ·obtain⟨_,_,_,_,hx,hy,_⟩:=hk;obtain⟨a1,c1,e1⟩:=Zc hx;obtain⟨a2,c2,e2⟩:=Zc hy;rw[e1]at hx ⊢;rw[e2]at hy ⊢;have X:=hid hx;clear hx;have Y:=hid hy;clear hy;have S0:Since w w1:=Since.trans (((Since.refl _).alloc _).alloc _) hs;have CXY:=hid (V1 _ _ _ _ _ X.out Y.out);have CX:=hid (fun bv l w h hb=>V1 (.slice a1 (changes m).length c1) bv (changes m) l w h hb)
   have CY:=hid (fun bv l w h hb=>V1 (.slice a2 (changes n).length c2) bv (changes n) l w h hb)
   obtain⟨p1,h1⟩:∃ p,meetB (changes m) (changes n)=p:=⟨_,rfl⟩
   obtain⟨p2,h2⟩:∃ p,meetB (changes m) (takes n)=p:=⟨_,rfl⟩
   obtain⟨p3,h3⟩:∃ p,meetB (changes n) (takes m)=p:=⟨_,rfl⟩
   rw[h1]at CXY;have P1:=hid h1;have P2:=hid h2;have P3:=hid h3;clear h1 h2 h3 hr hq
   cases p1 with
   | true =>
    go_wp2_with fail
    refine CXY.out.mono ?_;rintro e w2 ⟨rfl,ha⟩;go_wp2
    go_ret
    exact⟨by rw[P1.out];rfl,S0.trans ha⟩
   | false =>
    have hx:∀ i,w1.cell? ⟨w.heap.size,i,none⟩=_:=fun i=>hs.cell (p:=⟨w.heap.size,i,none⟩) zaE
    have hy:∀ i,w1.cell? ⟨w.heap.size+1,i,none⟩=_:=fun i=>hs.cell (p:=⟨w.heap.size+1,i,none⟩) zaL
    have hu:=hid hx;have ht:=hid hy;clear hx hy;go_wp2_with fail
    refine CXY.out.mono ?_;rintro e w2 ⟨rfl,ha⟩;have hd:∀ i,w2.cell? ⟨w.heap.size+1,i,none⟩=_:=fun i=>(ha.cell (p:=⟨w.heap.size+1,i,none⟩) (Nat.lt_of_lt_of_le zaL hs.size)).trans (ht.out i)
    go_wp2_with fail
    refine (hn.out _ (((H2.out.keep (((Since.refl _).alloc _).alloc _)).keep hs).keep ha)).mono ?_;rintro e w3 ⟨v3,rfl,hg,hh⟩;obtain⟨a3,c3,e3⟩:=Zc hg;rw[e3]at hg ⊢;have V3:=hid hg;clear hg;clear hd
    cases p2 with
    | true =>
     go_wp2_with fail
     refine (CX.out _ _ _ ((X.out.keep ha).keep hh) V3.out).mono ?_;rw[P2.out];rintro e w4 ⟨rfl,hi⟩;go_wp2
     go_ret
     exact⟨by rw[P1.out,P2.out];rfl,((S0.trans ha).trans hh).trans hi⟩
    | false =>
     go_wp2_with fail
     refine (CX.out _ _ _ ((X.out.keep ha).keep hh) V3.out).mono ?_;rw[P2.out];rintro e w4 ⟨rfl,hi⟩;have hc:=(ha.trans hh).trans hi;have hd:∀ i,w4.cell? ⟨w.heap.size,i,none⟩=_:=fun i=>(hc.cell (p:=⟨w.heap.size,i,none⟩) (Nat.lt_of_lt_of_le zaE hs.size)).trans (hu.out i)
     go_wp2_with fail
     refine (ho.out _ ((((H.out.keep (((Since.refl _).alloc _).alloc _)).keep hs).keep hc))).mono ?_;rintro e w5 ⟨v5,rfl,he,hm⟩;obtain⟨a5,c5,e5⟩:=Zc he;rw[e5]at he ⊢;have V5:=hid he;clear he;clear hd;go_wp2_with fail
     refine (CY.out _ _ _ ((Y.out.keep hc).keep hm) V5.out).mono ?_;rw[P3.out];rintro e w6 ⟨rfl,hp⟩
     cases p3<;>(go_wp2;go_ret;exact⟨by rw[P1.out,P2.out,P3.out];rfl,((S0.trans hc).trans hm).trans hp⟩)
theorem Zex (l a:List Int):meetB l a=meetB a l:=by
 unfold meetB;rw[Bool.eq_iff_iff,List.any_eq_true,List.any_eq_true];constructor;iterate 2
  ·rintro⟨x,hx,h⟩;obtain⟨y,hy,he⟩:=List.any_eq_true.1 h;exact⟨y,hy,List.any_eq_true.2 ⟨x,hx,beq_iff_eq.2 (eq_of_beq he).symm⟩⟩
theorem ZaV (m n:Mach):Zw m n=Zw n m:=by
 unfold Zw;rw[Zex (changes m) (changes n),Bool.and_comm (strictB m.op),Bool.and_comm (loadB m.op)];generalize meetB (changes n) (changes m)=a;generalize meetB (changes m) (takes n)=b;generalize meetB (changes n) (takes m)=c;generalize (strictB n.op&&strictB m.op)=d;generalize (!(loadB n.op&&loadB m.op))=e
 cases a<;>cases b<;>cases c<;>cases d<;>cases e<;>rfl
end Go.Proofs.YtimpddecdodddaaGreat
