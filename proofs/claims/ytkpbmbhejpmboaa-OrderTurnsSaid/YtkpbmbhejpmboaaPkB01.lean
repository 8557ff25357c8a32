/- What the instruction's places are: mach.Takes, mach.Makes, phys.Takes, phys.Makes, phys.Spoils, and the references'. Plain facts: Go's 32-bit integers as bit vectors. No program here. What word.Wide and the reference's Wide compute. Plain: what layer 12 says of instructions, ends and programs, and h -/
import Derived.Test.YtkpbmbhejpmboaaPkB00
import Derived.WalkKit
import Derived.WalkSpells
import Derived.WalkLawsBesides
import Derived.Test.YtkpbmbhejpmboaaRows
import Derived.Lib.Hide
import Derived.Lib.AppendZeros
import Derived.Deep.QuietTactic
import Derived.BigQuiet
namespace Go.Proofs.Ytkpbmbhejpmboaa
open Go.RowKit
set_option linter.unusedVariables false
def IsKinds (m:Mach) (v:Value) (_:World):Prop:=∃ x y,v=.agg #[.func (.func x) #[] #[],.func (.func y) #[] #[]]∧KindAt x m (takes7 m)∧KindAt y m (makes7 m)
theorem IsKinds.stable (m:Mach):Stable (IsKinds m):=fun _ _ _ h _=>h
def IsPlaces (m:Mach) (l:List Int) (v:Value) (_:World):Prop:=∃ x,v=.func (.func x) #[] #[]∧KindAt x m l
theorem IsPlaces.stable (m:Mach) (l:List Int):Stable (IsPlaces m l):=fun _ _ _ h _=>h
set_option maxHeartbeats 400000 in
set_option maxRecDepth 100000 in
theorem takes7_any (m:Mach) (av:Value) (w:World) (h:Ints w av m.args) (hl:m.args.length≤1000) :
  Calls Try.prog 55 #[mv m av] w (Gives w (takes7 m)):=by
 have HK:Hid (∀ w,Calls Try.prog 85 #[.int .i64 m.op] w (KindOf m w)):=fun w=>kindOf_any m w
 have H:=Lib.hid h;clear h
 unfold mv
 go_enter Try.func55,Try.ntmps55
 go_wp2
 refine wp_region_list_facts rfl (by decide +kernel) (by decide +kernel)
  [Is (.pointer (some ⟨w.heap.size,0,none⟩)),Is (.int .i64 m.op),IsKinds m,IsPlaces m (takes7 m),Is (mv m av),IsNums .i64 (takes7 m),IsNums .i64 (takes7 m)]
  ⟨Is.stable _,Is.stable _,IsKinds.stable _,IsPlaces.stable _ _,Is.stable _,IsNums.stable _ _,IsNums.stable _ _,trivial⟩ ⟨?_,?_,?_,?_,?_,?_,?_,trivial⟩ ?_
 all_goals
  intro vs w1 hs hk
  have hc:∀ i,w1.cell? ⟨w.heap.size,i,none⟩=_:=fun i=>hs.cell (p:=⟨w.heap.size,i,none⟩) (by simp)
  simp only[putAll,Act.put,Knows,KnowsAll,nthF,Is,List.setIfInBounds_toArray,List.set_cons_zero,List.set_cons_succ,Nat.reduceAdd,List.length_cons,List.length_nil]at hk ⊢
  try simp only[hk]
 ·go_wp2
  exact⟨_,rfl,rfl,Since.refl _⟩
 ·go_wp2
  exact⟨_,rfl,rfl,Since.refl _⟩
 ·go_wp2_with (go_at_call 85;refine (HK.out _).mono ?_;rintro e w2 ⟨x,y,rfl,hx,hy,hs2⟩)
  exact⟨_,rfl,⟨x,y,rfl,hx,hy⟩,hs2⟩
 ·obtain⟨⟨x,y,hxy,hx,hy⟩,_⟩:=hk
  rw[hxy]
  go_wp2
  rename_i hK
  exact hK _ _ ⟨_,rfl,⟨x,rfl,hx⟩,Since.refl _⟩
 ·go_wp2
  exact⟨_,rfl,rfl,Since.refl _⟩
 ·obtain⟨⟨x,hx,hx2⟩,h4,_⟩:=hk
  rw[hx]
  have hent:=hx2.1
  have HC:=Lib.hid hx2.2;clear hx2
  unfold Enters at hent
  go_wp2_with fail
  refine (HC.out av _ ((H.out.keep ((Since.refl _).alloc _)).keep hs) hl).mono ?_
  rintro e w2 ⟨v,rfl,hv,hs2⟩
  go_wp2
  exact⟨_,rfl,hv,hs2⟩
 ·go_wp2
  exact⟨_,rfl,hk.1,Since.refl _⟩
 ·go_wp2
  go_ret
  exact⟨_,rfl,hk.2.2.2.2.2.2.1,((Since.refl _).alloc _).trans hs⟩
set_option maxHeartbeats 400000 in
set_option maxRecDepth 100000 in
theorem makes7_any (m:Mach) (av:Value) (w:World) (h:Ints w av m.args) (hl:m.args.length≤1000) :
  Calls Try.prog 56 #[mv m av] w (Gives w (makes7 m)):=by
 have HK:Hid (∀ w,Calls Try.prog 85 #[.int .i64 m.op] w (KindOf m w)):=fun w=>kindOf_any m w
 have H:=Lib.hid h;clear h
 unfold mv
 go_enter Try.func56,Try.ntmps56
 go_wp2
 refine wp_region_list_facts rfl (by decide +kernel) (by decide +kernel)
  [Is (.pointer (some ⟨w.heap.size,0,none⟩)),Is (.int .i64 m.op),IsKinds m,IsPlaces m (makes7 m),Is (mv m av),IsNums .i64 (makes7 m),IsNums .i64 (makes7 m)]
  ⟨Is.stable _,Is.stable _,IsKinds.stable _,IsPlaces.stable _ _,Is.stable _,IsNums.stable _ _,IsNums.stable _ _,trivial⟩ ⟨?_,?_,?_,?_,?_,?_,?_,trivial⟩ ?_
 all_goals
  intro vs w1 hs hk
  have hc:∀ i,w1.cell? ⟨w.heap.size,i,none⟩=_:=fun i=>hs.cell (p:=⟨w.heap.size,i,none⟩) (by simp)
  simp only[putAll,Act.put,Knows,KnowsAll,nthF,Is,List.setIfInBounds_toArray,List.set_cons_zero,List.set_cons_succ,Nat.reduceAdd,List.length_cons,List.length_nil]at hk ⊢
  try simp only[hk]
 ·go_wp2
  exact⟨_,rfl,rfl,Since.refl _⟩
 ·go_wp2
  exact⟨_,rfl,rfl,Since.refl _⟩
 ·go_wp2_with (go_at_call 85;refine (HK.out _).mono ?_;rintro e w2 ⟨x,y,rfl,hx,hy,hs2⟩)
  exact⟨_,rfl,⟨x,y,rfl,hx,hy⟩,hs2⟩
 ·obtain⟨⟨x,y,hxy,hx,hy⟩,_⟩:=hk
  rw[hxy]
  go_wp2
  rename_i hK
  exact hK _ _ ⟨_,rfl,⟨y,rfl,hy⟩,Since.refl _⟩
 ·go_wp2
  exact⟨_,rfl,rfl,Since.refl _⟩
 ·obtain⟨⟨x,hx,hx2⟩,h4,_⟩:=hk
  rw[hx]
  have hent:=hx2.1
  have HC:=Lib.hid hx2.2;clear hx2
  unfold Enters at hent
  go_wp2_with fail
  refine (HC.out av _ ((H.out.keep ((Since.refl _).alloc _)).keep hs) hl).mono ?_
  rintro e w2 ⟨v,rfl,hv,hs2⟩
  go_wp2
  exact⟨_,rfl,hv,hs2⟩
 ·go_wp2
  exact⟨_,rfl,hk.1,Since.refl _⟩
 ·go_wp2
  go_ret
  exact⟨_,rfl,hk.2.2.2.2.2.2.1,((Since.refl _).alloc _).trans hs⟩
def takes (m:Mach):List Int:=if m.op=2 then [m.a,m.b] else if m.op=30 then [16+m.imm] else takes7 m
def makes (m:Mach):List Int:=if m.op=2 then [m.a,m.b] else if m.op=31 then [16+m.imm] else makes7 m
def spoils (m:Mach):List Int:=if m.op=28 then [1,2,3] else []
def Fine (m:Mach):Prop:=-2147483648≤m.imm∧m.imm≤2147483647∧m.args.length≤1000
set_option maxHeartbeats 400000 in
set_option maxRecDepth 100000 in
theorem takes_any (m:Mach) (av:Value) (w:World) (h:Ints w av m.args) (hf:Fine m) :
  Calls Try.prog 25 #[mv m av] w (Gives w (takes m)):=by
 obtain⟨h1,h2,hl⟩:=hf
 have H:=Lib.hid h;clear h
 have HC:Hid (∀ w,Ints w av m.args→Calls Try.prog 55 #[mv m av] w (Gives w (takes7 m))):=fun w h=>takes7_any m av w h hl
 unfold mv at HC ⊢
 by_cases g1:m.op=2
 ·have e:takes m=[m.a,m.b]:=by unfold takes;rw[if_pos g1]
  rw[e];clear e
  have g1':(m.op==2)=true:=by simpa using g1
  clear g1
  go_enter Try.func25,Try.ntmps25
  go_wp2
  go_ret
  exact gives_last ((Since.refl _).alloc _) _ _ (by simp) rfl (by simp[maxLen]) rfl
 ·have g1':(m.op==2)=false:=by simpa using g1
  by_cases g2:m.op=30
  ·have e:takes m=[16+m.imm]:=by unfold takes;rw[if_neg g1,if_pos g2]
   rw[e];clear e
   have g2':(m.op==30)=true:=by simpa using g2
   clear g1 g2
   go_enter Try.func25,Try.ntmps25
   go_wp2
   go_ret
   exact gives_last ((Since.refl _).alloc _) _ _ (by simp) rfl (by simp[maxLen]) rfl
  ·have e:takes m=takes7 m:=by unfold takes;rw[if_neg g1,if_neg g2]
   rw[e];clear e
   have g2':(m.op==30)=false:=by simpa using g2
   clear g1 g2
   go_enter Try.func25,Try.ntmps25
   go_wp2_with (go_at_call 55;refine (HC.out _ (H.out.keep ((Since.refl _).alloc _))).mono ?_;rintro e w1 ⟨v,rfl,hv,hs⟩)
   go_ret
   exact⟨_,rfl,hv,((Since.refl _).alloc _).trans hs⟩
set_option maxHeartbeats 400000 in
set_option maxRecDepth 100000 in
theorem makes_any (m:Mach) (av:Value) (w:World) (h:Ints w av m.args) (hf:Fine m) :
  Calls Try.prog 22 #[mv m av] w (Gives w (makes m)):=by
 obtain⟨h1,h2,hl⟩:=hf
 have H:=Lib.hid h;clear h
 have HC:Hid (∀ w,Ints w av m.args→Calls Try.prog 56 #[mv m av] w (Gives w (makes7 m))):=fun w h=>makes7_any m av w h hl
 unfold mv at HC ⊢
 by_cases g1:m.op=2
 ·have e:makes m=[m.a,m.b]:=by unfold makes;rw[if_pos g1]
  rw[e];clear e
  have g1':(m.op==2)=true:=by simpa using g1
  clear g1
  go_enter Try.func22,Try.ntmps22
  go_wp2
  go_ret
  exact gives_last ((Since.refl _).alloc _) _ _ (by simp) rfl (by simp[maxLen]) rfl
 ·have g1':(m.op==2)=false:=by simpa using g1
  by_cases g2:m.op=31
  ·have e:makes m=[16+m.imm]:=by unfold makes;rw[if_neg g1,if_pos g2]
   rw[e];clear e
   have g2':(m.op==31)=true:=by simpa using g2
   clear g1 g2
   go_enter Try.func22,Try.ntmps22
   go_wp2
   go_ret
   exact gives_last ((Since.refl _).alloc _) _ _ (by simp) rfl (by simp[maxLen]) rfl
  ·have e:makes m=makes7 m:=by unfold makes;rw[if_neg g1,if_neg g2]
   rw[e];clear e
   have g2':(m.op==31)=false:=by simpa using g2
   clear g1 g2
   go_enter Try.func22,Try.ntmps22
   go_wp2_with (go_at_call 56;refine (HC.out _ (H.out.keep ((Since.refl _).alloc _))).mono ?_;rintro e w1 ⟨v,rfl,hv,hs⟩)
   go_ret
   exact⟨_,rfl,hv,((Since.refl _).alloc _).trans hs⟩
set_option maxHeartbeats 400000 in
set_option maxRecDepth 100000 in
theorem spoils_any (m:Mach) (av:Value) (w:World):Calls Try.prog 23 #[mv m av] w (Gives w (spoils m)):=by
 unfold mv spoils
 by_cases g:m.op=28
 ·rw[if_pos g]
  have g':(m.op==28)=true:=by simpa using g
  clear g
  go_enter Try.func23,Try.ntmps23
  go_wp2
  go_ret
  exact gives_last ((Since.refl _).alloc _) _ _ (by simp) rfl (by simp[maxLen]) rfl
 ·rw[if_neg g]
  have g':(m.op==28)=false:=by simpa using g
  clear g
  go_enter Try.func23,Try.ntmps23
  go_wp2
  go_ret
  exact gives_none ((Since.refl _).alloc _)
set_option maxHeartbeats 400000 in
set_option maxRecDepth 100000 in
theorem rspoils_any (m:Mach) (av:Value) (w:World):Calls Try.prog 63 #[mv m av] w (Gives w (spoils m)):=by
 unfold mv spoils
 by_cases g:m.op=28
 ·rw[if_pos g]
  have g':(m.op==28)=true:=by simpa using g
  clear g
  go_enter Try.func63,Try.ntmps63
  go_wp2
  go_ret
  exact gives_last ((Since.refl _).alloc _) _ _ (by simp) rfl (by simp[maxLen]) rfl
 ·rw[if_neg g]
  have g':(m.op==28)=false:=by simpa using g
  clear g
  go_enter Try.func63,Try.ntmps63
  go_wp2
  go_ret
  exact gives_none ((Since.refl _).alloc _)
structure PlV where
 m:Mach
 av:Value
 src:Int
structure EndV where
 op:Int
 a:Int
 b:Int
 to:List Int
 tov:Value
 imm:Int
structure BlkV where
 ins:List PlV
 insv:Value
 fin:EndV
structure PrgV where
 params:Int
 k:Int
 slots:Int
 blocks:List BlkV
 bv:Value
def regsOf (m:Mach):List Int:=if m.op=30∨m.op=31 then takes7 m++makes7 m else takes m++makes m
def badReg (k:Int) (l:List Int):Bool:=l.any fun r=>decide (r<0)||decide (k≤r)
def placesB:List Int→Nat→Bool
 | [],_=>true
 | r::l,n=>r==(n:Int)&&placesB l (n+1)
def shapeB (m:Mach):Bool:=
 if m.op=28 then placesB m.args 0&&decide (m.args.length≤4)&&m.d==0
 else if m.op=29 then m.d==0&&m.e==1
 else decide (1≤m.op)&&decide (m.op≤31)
def immB (m:Mach):Bool:=
 if m.op=3 then decide (-32768≤m.imm)&&decide (m.imm≤32767)
 else if m.op=18∨m.op=19 then decide (-128≤m.imm)&&decide (m.imm≤127)
 else if m.op=20∨m.op=21∨m.op=22 then decide (0≤m.imm)&&decide (m.imm≤31)
 else if m.op=24∨m.op=26 then decide (0≤m.imm)&&decide (m.imm≤255)
 else true
def stackB (m:Mach):Bool:=m.op==30||m.op==31
def insE (m:Mach) (k slots:Int):Int:=
 if shapeB m=false then 30 else if badReg k (regsOf m)=true then 31
 else if stackB m&&(decide (m.imm<0)||decide (slots≤m.imm)) then 43 else if immB m=false then 32 else 0
def needs (e:EndV):List Int:=
 if e.op=2∨e.op=6∨(e.op=7∧0≤e.a) then [e.a] else if 3≤e.op∧e.op≤5 then [e.a,e.b] else []
def fitsB (e:EndV):Bool:=
 if e.op=1 then decide (e.to.length=1)
 else if 2≤e.op∧e.op≤5 then decide (e.to.length=2)
 else if e.op=6 then decide (2≤e.to.length)&&decide (e.to.length≤65)
 else if e.op=7∨e.op=8 then decide (e.to.length=0) else false
def badNeed (e:EndV) (k:Int):Bool:=(needs e).any fun r=>decide (r<0)||decide (k≤r)||(e.op==7&&decide (0<r))
def badTo (n:Int) (l:List Int):Bool:=l.any fun t=>decide (t<1)||decide (n≤t)
def endE (e:EndV) (k n:Int):Int:=
 if fitsB e=false then 30 else if badNeed e k=true then 31 else if badTo n e.to=true then 14 else 0
def ptotal (l:List BlkV):Nat:=l.length+(l.map fun b=>b.ins.length).sum
def insList (k slots:Int):List PlV→Nat→Option (Int × Nat)
 | [],_=>none
 | x::r,i=>if insE x.m k slots=0 then insList k slots r (i+1) else some (insE x.m k slots,i)
def blkE (k slots n:Int) (b:BlkV):Option (Int × Nat):=
 match insList k slots b.ins 0 with
 | some x=>some x
 | none=>if endE b.fin k n=0 then none else some (endE b.fin k n,b.ins.length)
def blkList (k slots n:Int):List BlkV→Nat→Option (Int × Nat × Nat)
 | [],_=>none
 | b::r,j=>match blkE k slots n b with
  | some x=>some (x.1,j,x.2)
  | none=>blkList k slots n r (j+1)
def headE (p:PrgV):Int:=
 if p.params<0∨4<p.params∨p.k<4∨16<p.k∨p.slots<0∨16384<p.slots then 1
 else if p.blocks.length=0 then 14
 else if 512<p.blocks.length∨65536<ptotal p.blocks then 2 else 0
def funcE (p:PrgV):Int × Nat × Nat:=
 if headE p=0 then (blkList p.k p.slots p.blocks.length p.blocks 0).getD (0,0,0) else (headE p,0,0)
def rightB (p:PrgV):Bool:=(funcE p).1==0
def Fresh (w:World) (e:Ending) (w':World):Prop:=∃ v,e=.returned v∧w'.ownsRow w.heap.size 3 1 v ([]:List Int).length (([]:List Int).map (Value.int .i64))∧Since w w'
set_option maxHeartbeats 400000 in
set_option maxRecDepth 100000 in
theorem grow_nil (n:Nat) (w:World) (hn:n≤100000):Calls Try.prog 84 #[.slice none 0 0,.int .i64 n] w (Fresh w):=by
 rcases Nat.eq_zero_or_pos n with rfl|hp
 ·go_enter Try.func84,Try.ntmps84
  go_wp2
  go_ret
  exact⟨_,rfl,own_nil _ _ _ _,Since.refl _⟩
 ·obtain⟨i0,hi,hz0,hz1,hz2⟩:=info_parts Try.info3
  have hz2':n*i0.bytes≤281474976710656:=by rw[hz2];omega
  have happ:=Lib.run_append_nil_zeros (P:=Try.prog) w 25 3 25 3 i0 (.int .i64 0) .i64 .i64 Try.underlying25 Try.underlying3 hi hz0 n hp (by rw[hz1];decide) (by omega) hz2'
  have hge:=grownCap_ge w n 0 3
  have hle:=grownCap_le_maxLen w n 0 3 (by unfold maxLen;omega)
  generalize hcap:grownCap w n 0 3=cap at *
  have HA:=Lib.hid happ;clear happ
  have hmax:cap≤9223372036854775807:=by unfold maxLen at hle;omega
  have hp':(0:Int)<(n:Int):=by omega
  clear hcap hz0 hz1 hz2 hi hz2'
  go_enter Try.func84,Try.ntmps84
  go_wp2_with (at_builtin;refine Lib.wpList_append_run _ rfl _ _ _ _ rfl _ _ rfl rfl _ _ HA.out ?_)
  go_ret
  refine⟨_,rfl,⟨rfl,.inr ⟨w.heap.size,cap,_,rfl,Nat.le_refl _,(MapKept.heap_alloc w.drew _).1,Nat.zero_le _,hle,?_,?_⟩⟩,(Since.refl w).drew.alloc _⟩
  ·simp only[Array.size_append,size_zeroCells]
   simp
   omega
  ·rfl
def Rows2 (w:World) (v:Value) (rows:List (Value × List Int)):Prop:=
 ∃ b off cap,v=.slice (some ⟨b,off,none⟩) rows.length cap∧b<w.heap.size∧∀ (j:Nat) (x:Value × List Int),rows[j]? = some x→w.cell? ⟨b,off+j,none⟩=some x.1∧Nums .i64 w x.1 x.2
def total (rows:List (Value × List Int)):Nat:=(rows.map fun x=>x.2.length).sum
def joined (rows:List (Value × List Int)):List Int:=(rows.map fun x=>x.2).flatten
theorem total_take (rows:List (Value × List Int)) (k:Nat) (x:Value × List Int) (h:rows[k]? = some x):total (rows.take (k+1))=total (rows.take k)+x.2.length:=by
 unfold total;rw[List.take_add_one,h];simp
theorem joined_take (rows:List (Value × List Int)) (k:Nat) (x:Value × List Int) (h:rows[k]? = some x):joined (rows.take (k+1))=joined (rows.take k)++x.2:=by
 unfold joined;rw[List.take_add_one,h];simp
theorem joined_length (rows:List (Value × List Int)):(joined rows).length=total rows:=by
 unfold joined total;rw[List.length_flatten,List.map_map];rfl
theorem total_mono (rows:List (Value × List Int)) (k:Nat):total (rows.take k)≤total rows:=by
 have:total rows=total (rows.take k)+total (rows.drop k):=by
  unfold total;rw[←List.sum_append,←List.map_append,List.take_append_drop]
 omega
theorem nums_lenI {k : IntKind} {w : World} {v : Value} {l : List Int} (h:Nums k w v l):∃ a cap,v=.slice a l.length cap:=by
 rcases h with ⟨_,h1,rfl⟩|⟨b,off,cap,h1,_⟩
 ·exact⟨_,_,h1⟩
 ·exact⟨_,_,h1⟩
set_option maxHeartbeats 1000000 in
set_option maxRecDepth 100000 in
theorem concat_any (v:Value) (rows:List (Value × List Int)) (w:World) (h:Rows2 w v rows) (hn:rows.length≤1000) (ht:total rows≤100000) :
  Calls Try.prog 54 #[v] w (Gives w (joined rows)):=by
 obtain⟨b,off,cap,rfl,hb,hcell⟩:=h
 have HC:=Lib.hid hcell;clear hcell
 go_enter Try.func54,Try.ntmps54
 go_wp2_with fail
 go_loop [3,11] (fun s i=>∃ k:Nat,k≤rows.length∧i=.int .i64 k∧s=.int .i64 (total (rows.take k):Nat)) (fun _ i=>rows.length-(intOf i).toNat)
 case atStart=>exact⟨0,by omega,rfl,rfl⟩
 case round =>
  obtain⟨k,hk,rfl,rfl⟩:=hrel
  have hm:=total_mono rows k
  by_cases hlt:k<rows.length
  ·obtain⟨x,hx⟩:∃ x,rows[k]? = some x:=⟨_,List.getElem?_eq_getElem hlt⟩
   obtain⟨hc,hnum⟩:=HC.out k x hx
   obtain⟨a,c,hv⟩:=nums_lenI hnum
   have hs:=total_take rows k x hx
   have hm2:=total_mono rows (k+1)
   rw[hv]at hc
   have HS:=Lib.hid hs
   generalize total (rows.take k)=t at *
   clear hs
   have ht2:t+x.2.length≤100000:=by have:=HS.out;omega
   go_wp2_with fail
   go_round
   case rel=>exact⟨k+1,by omega,by go_num,by rw[HS.out];go_num⟩
   case measure=>simp[intOf];omega
  ·obtain rfl:k=rows.length:=by omega
   rw[List.take_length]
   go_wp2_with fail
   refine (grow_nil _ _ ht).mono ?_
   rintro e w1 ⟨g,rfl,hown,hs1⟩
   go_wp2_with fail
   go_loopw [6,27] (fun s i wr=>∃ k:Nat,k≤rows.length∧i=.int .i64 k∧wr.ownsRow w.heap.size 3 1 s (joined (rows.take k)).length ((joined (rows.take k)).map (Value.int .i64))∧Since w wr) (fun _ i _=>rows.length-(intOf i).toNat)
   case atStart=>exact⟨0,by omega,rfl,hown,hs1⟩
   case round =>
    obtain⟨k,hk,rfl,hownr,hsr⟩:=hrel
    by_cases hlt:k<rows.length
    ·obtain⟨x,hx⟩:∃ x,rows[k]? = some x:=⟨_,List.getElem?_eq_getElem hlt⟩
     obtain⟨hc,hnum⟩:=HC.out k x hx
     have hjt:=joined_take rows k x hx
     have hjl:=joined_length (rows.take (k+1))
     have hm2:=total_mono rows (k+1)
     rw[hjt,List.length_append]at hjl
     have HJ:=Lib.hid hjt
     generalize joined (rows.take k)=jk at *
     clear hjt
     have hjl2:jk.length+x.2.length≤1000000:=by omega
     clear hjl
     have hc2:wr.cell? ⟨b,off+k,none⟩=some x.1:=by rw[hsr.cell hb];exact hc
     have hnum2:=hnum.keep hsr
     have HN:=Lib.hid hnum2
     have HO:=Lib.hid hownr
     clear hnum hnum2 hownr hc
     go_wp2_with (at_builtin;refine wpList_append_nums (w0:=w) .i64 rfl _ _ 25 rfl 3 (.int .i64 0) 8 Try.underlying25 Try.info3 rfl (by decide) _ _ jk x.2 rfl rfl HO.out HN.out hjl2 hsr ?_;intro v' w' hown2 hs2)
     go_roundw
     case rel=>exact⟨k+1,by omega,by go_num,by rw[HJ.out];exact hown2,hs2⟩
     case measure=>simp[intOf];omega
    ·obtain rfl:k=rows.length:=by omega
     rw[List.take_length]at hownr
     go_wp2_with fail
     go_ret
     exact⟨_,rfl,nums_of_own hownr,hsr⟩
def changes (m:Mach):List Int:=makes m++spoils m
theorem takes7_len (m:Mach) (h:m.args.length≤1000):(takes7 m).length≤1000:=by
 unfold takes7;repeat' split
 all_goals first | exact h | simp
theorem makes7_len (m:Mach):(makes7 m).length≤2:=by
 unfold makes7;repeat' split
 all_goals simp
theorem takes_len (m:Mach) (h:m.args.length≤1000):(takes m).length≤1000:=by
 unfold takes;repeat' split
 all_goals first | exact takes7_len m h | simp
theorem makes_len (m:Mach):(makes m).length≤2:=by
 unfold makes;repeat' split
 all_goals first | exact makes7_len m | simp
theorem spoils_len (m:Mach):(spoils m).length≤3:=by
 unfold spoils;split<;>simp
theorem changes_len (m:Mach):(changes m).length≤5:=by
 unfold changes;rw[List.length_append];have:=makes_len m;have:=spoils_len m;omega
theorem Rows2.keep {w w':World} {v : Value} {rows:List (Value × List Int)} (h:Rows2 w v rows) (s:Since w w'):Rows2 w' v rows:=by
 obtain⟨b,off,cap,h1,h2,h3⟩:=h
 exact⟨b,off,cap,h1,Nat.lt_of_lt_of_le h2 s.size,fun j x hj=>⟨by rw[s.cell h2];exact (h3 j x hj).1,(h3 j x hj).2.keep s⟩⟩
def IsRows (l1 l2:List Int) (v:Value) (w:World):Prop:=∃ v1 v2,Rows2 w v [(v1,l1),(v2,l2)]
theorem IsRows.stable (l1 l2:List Int):Stable (IsRows l1 l2):=fun _ _ _ ⟨v1,v2,h⟩ hs=>⟨v1,v2,h.keep hs⟩
theorem rows_last {w : World} {b : Nat} (hb : b = w.heap.size) (t : TypeId) {v1 v2 : Value} {l1 l2 : List Int} (h1 : Nums .i64 w v1 l1) (h2 : Nums .i64 w v2 l2) : IsRows l1 l2 (.slice (some ⟨b, 0, none⟩) 2 2) (w.alloc (.cells #[v1, v2] t)) := by
  subst hb
  refine ⟨v1, v2, w.heap.size, 0, 2, rfl, by simp, fun j x hj => ?_⟩
  have hs : Since w (w.alloc (.cells #[v1, v2] t)) := (Since.refl w).alloc _
  match j, hj with
  | 0, hj => obtain rfl : (v1, l1) = x := by simpa using hj
             exact ⟨by unfold World.cell?; rw [show (w.alloc (.cells #[v1, v2] t)).heap[w.heap.size]? = _ from heap_last _ _]; rfl, h1.keep hs⟩
  | 1, hj => obtain rfl : (v2, l2) = x := by simpa using hj
             exact ⟨by unfold World.cell?; rw [show (w.alloc (.cells #[v1, v2] t)).heap[w.heap.size]? = _ from heap_last _ _]; rfl, h2.keep hs⟩
  | j + 2, hj => simp at hj
set_option maxHeartbeats 1000000 in
set_option maxRecDepth 100000 in
theorem changes_any (m:Mach) (av:Value) (w:World) (h:Ints w av m.args) (hf:Fine m) :
  Calls Try.prog 88 #[mv m av] w (Gives w (changes m)):=by
 have H:=Lib.hid h;clear h
 have HM:Hid (∀ w,Ints w av m.args→Calls Try.prog 22 #[mv m av] w (Gives w (makes m))):=fun w h=>makes_any m av w h hf
 have HS:Hid (∀ w,Calls Try.prog 23 #[mv m av] w (Gives w (spoils m))):=fun w=>spoils_any m av w
 have HL:Hid (total [((.nilFunc:Value),makes m),(.nilFunc,spoils m)]≤100000):=by
  have:=makes_len m;have:=spoils_len m;unfold Hid total;simp;omega
 have e:changes m=joined [((.nilFunc:Value),makes m),(.nilFunc,spoils m)]:=by simp[changes,joined]
 rw[e];clear e
 unfold mv
 go_enter Try.func88,Try.ntmps88
 go_wp2
 refine wp_region_list_facts rfl (by decide +kernel) (by decide +kernel)
  [Is (mv m av),IsNums .i64 (makes m),Is (mv m av),IsNums .i64 (spoils m),IsRows (makes m) (spoils m),IsNums .i64 (joined [((.nilFunc:Value),makes m),(.nilFunc,spoils m)]),IsNums .i64 (joined [((.nilFunc:Value),makes m),(.nilFunc,spoils m)])]
  ⟨Is.stable _,IsNums.stable _ _,Is.stable _,IsNums.stable _ _,IsRows.stable _ _,IsNums.stable _ _,IsNums.stable _ _,trivial⟩ ⟨?_,?_,?_,?_,?_,?_,?_,trivial⟩ ?_
 all_goals
  intro vs w1 hs hk
  have hc:∀ i,w1.cell? ⟨w.heap.size,i,none⟩=_:=fun i=>hs.cell (p:=⟨w.heap.size,i,none⟩) (by simp)
  simp only[putAll,Act.put,Knows,KnowsAll,nthF,Is,List.setIfInBounds_toArray,List.set_cons_zero,List.set_cons_succ,Nat.reduceAdd,List.length_cons,List.length_nil]at hk ⊢
  try simp only[hk]
 ·go_wp2
  exact⟨_,rfl,rfl,Since.refl _⟩
 ·go_wp2_with fail
  refine (HM.out _ ((H.out.keep ((Since.refl _).alloc _)).keep hs)).mono ?_
  rintro e w2 ⟨v,rfl,hv,hs2⟩
  go_wp2
  exact⟨_,rfl,hv,hs2⟩
 ·go_wp2
  exact⟨_,rfl,rfl,Since.refl _⟩
 ·go_wp2_with fail
  refine (HS.out _).mono ?_
  rintro e w2 ⟨v,rfl,hv,hs2⟩
  go_wp2
  exact⟨_,rfl,hv,hs2⟩
 ·obtain⟨h1,h2,_⟩:=hk
  obtain⟨a1,c1,e1⟩:=nums_lenI h1
  obtain⟨a2,c2,e2⟩:=nums_lenI h2
  rw[e1]at h1 ⊢
  rw[e2]at h2 ⊢
  have H1:=Lib.hid h1;clear h1
  have H2:=Lib.hid h2;clear h2
  go_wp2
  exact⟨_,rfl,rows_last rfl _ H1.out H2.out,(Since.refl _).alloc _⟩
 ·obtain⟨⟨v1,v2,h1⟩,_⟩:=hk
  have H1:=Lib.hid h1;clear h1
  go_wp2_with fail
  refine (concat_any _ _ _ H1.out (by simp) HL.out).mono ?_
  rintro e w2 ⟨v,rfl,hv,hs2⟩
  go_wp2
  exact⟨_,rfl,hv,hs2⟩
 ·go_wp2
  exact⟨_,rfl,hk.1,Since.refl _⟩
 ·go_wp2
  go_ret
  exact⟨_,rfl,hk.2.2.2.2.2.2.1,((Since.refl _).alloc _).trans hs⟩
def AtPost (p:Bool) (w:World) (e:Ending) (w':World):Prop:=∃ r:Int,e=.returned (.int .i64 r)∧decide (0≤r)=p∧w=w'
theorem at_some {w : World} {r : Int} (h:0≤r):AtPost true w (.returned (.int .i64 r)) w:=⟨r,rfl,by simp[h],rfl⟩
theorem at_none {w : World}:AtPost false w (.returned (.int .i64 (-1))) w:=⟨-1,rfl,by decide,rfl⟩
theorem nums_cell {k : IntKind} {w : World} {a : Option Addr} {len cap:Nat} {l : List Int} (h:Nums k w (.slice a len cap) l):len=l.length∧(l≠[]→∃ b off,a=some ⟨b,off,none⟩∧b<w.heap.size∧∀ (j:Nat) (n:Int),l[j]? = some n→w.cell? ⟨b,off+j,none⟩=some (.int k n)):=by
 rcases h with ⟨_,h1,h2⟩|⟨b,off,cap',h1,_,_,hb,hc⟩
 ·cases h1;subst h2;exact⟨rfl,fun h=>absurd rfl h⟩
 ·cases h1;exact⟨rfl,fun _=>⟨b,off,rfl,hb,hc⟩⟩
theorem any_prefix {α:Type} {p : α→Bool} {l : List α} {k : Nat} (hk:k=l.length) (h:∀ j x,j<k→l[j]? = some x→p x=false):l.any p=false:=by
 rw[List.any_eq_false]
 intro x hx
 obtain⟨j,hj,rfl⟩:=List.getElem_of_mem hx
 simp[h j l[j] (by omega) (by simp[hj])]
theorem any_at {α:Type} {p : α→Bool} {l : List α} {k : Nat} {x : α} (h:l[k]? = some x) (hp:p x=true):l.any p=true:=List.any_eq_true.2 ⟨x,List.mem_of_getElem? h,hp⟩
set_option maxHeartbeats 1000000 in
set_option maxRecDepth 100000 in
theorem index_any (v:Value) (l:List Int) (x:Int) (w:World) (h:Nums .i64 w v l) :
  Calls Try.prog 134 #[v,.int .i64 x] w (AtPost (l.any fun y=>x==y) w):=by
 have hm:=h.len
 obtain⟨a,cap,rfl⟩:=nums_lenI h
 obtain⟨_,hc⟩:=nums_cell h
 have HC:=Lib.hid hc;clear hc h
 unfold maxLen at hm
 go_enter Try.func134,Try.ntmps134
 go_wp2
 go_loop [8] (fun i=>∃ k:Nat,k≤l.length∧i=.int .i64 k∧∀ j y,j<k→l[j]? = some y→(x==y)=false) (fun i=>l.length-(intOf i).toNat)
 case atStart=>exact⟨0,Nat.zero_le _,rfl,fun _ _ h=>by omega⟩
 case round =>
  obtain⟨k,hk,rfl,hno⟩:=hrel
  by_cases hlt:k<l.length
  ·obtain⟨y,hy⟩:∃ y,l[k]? = some y:=⟨_,List.getElem?_eq_getElem hlt⟩
   obtain⟨b,off,rfl,hb,hcell⟩:=HC.out (by intro e;rw[e]at hlt;simp at hlt)
   have hc:=hcell k y hy
   have HY:=Lib.hid hy
   have HNO:=Lib.hid hno
   clear hcell hy hno
   by_cases he:(x==y)=true
   ·have hyes:=any_at (p:=fun y=>x==y) HY.out he
    have HF:=Lib.hid hyes;clear hyes
    go_wp2
    go_ret
    rw[HF.out]
    exact at_some (by omega)
   ·have he:(x==y)=false:=by simpa using he
    go_wp2
    go_round
    case rel =>
     refine⟨k+1,by omega,by go_num,fun j z hj hz=>?_⟩
     by_cases e:j=k
     ·subst e;have:=HY.out.symm.trans hz;cases this;exact he
     ·exact HNO.out j z (by omega) hz
    case measure=>simp[intOf];omega
  ·obtain rfl:k=l.length:=by omega
   have hyes:=any_prefix (p:=fun y=>x==y) rfl hno
   have HF:=Lib.hid hyes;clear hyes hno
   go_wp2
   go_ret
   rw[HF.out]
   exact at_none
def Tells (p:Bool) (w:World) (e:Ending) (w':World):Prop:=e=.returned (.bool p)∧w=w'
set_option maxHeartbeats 400000 in
set_option maxRecDepth 100000 in
theorem contains_any (v:Value) (l:List Int) (x:Int) (w:World) (h:Nums .i64 w v l) :
  Calls Try.prog 116 #[v,.int .i64 x] w (Tells (l.any fun y=>x==y) w):=by
 go_enter Try.func116,Try.ntmps116
 go_wp2_with (go_at_call 134;refine (index_any _ _ _ _ h).mono ?_;rintro e w1 ⟨r,rfl,hr,rfl⟩)
 go_ret
 exact⟨by rw[←hr];rfl,rfl⟩
set_option maxHeartbeats 400000 in
set_option maxRecDepth 100000 in
theorem common1_any (x:Int) (p:Addr) (bv:Value) (lb:List Int) (w:World) (hp:w.cell? p=some bv) (hb:Nums .i64 w bv lb) :
  Calls Try.prog 115 #[.int .i64 x,.pointer (some p)] w (Tells (lb.any fun y=>x==y) w):=by
 obtain⟨a,cap,rfl⟩:=nums_lenI hb
 have HB:=Lib.hid hb;clear hb
 go_enter Try.func115,Try.ntmps115
 go_wp2_with (go_at_call 116;refine (contains_any _ _ _ _ HB.out).mono ?_;rintro e w1 ⟨rfl,rfl⟩)
 go_ret
 exact⟨rfl,rfl⟩
def meetB (l lb:List Int):Bool:=l.any fun x=>lb.any fun y=>x==y
set_option maxHeartbeats 1000000 in
set_option maxRecDepth 100000 in
theorem indexFunc_any (v:Value) (l:List Int) (p:Addr) (bv:Value) (lb:List Int) (w:World) (h:Nums .i64 w v l) (hp:w.cell? p=some bv) (hb:Nums .i64 w bv lb) :
  Calls Try.prog 133 #[v,.func (.func 115) #[] #[.pointer (some p)]] w (AtPost (meetB l lb) w):=by
 have hm:=h.len
 obtain⟨a,cap,rfl⟩:=nums_lenI h
 obtain⟨_,hc⟩:=nums_cell h
 have HC:=Lib.hid hc;clear hc h
 have HCALL:Hid (∀ x,Calls Try.prog 115 #[.int .i64 x,.pointer (some p)] w (Tells (lb.any fun y=>x==y) w)):=fun x=>common1_any x p bv lb w hp hb
 clear hp hb
 unfold maxLen at hm
 unfold meetB
 generalize hq:(fun x=>lb.any fun y=>x==y)=q at *
 have hq2:∀ x,(lb.any fun y=>x==y)=q x:=fun x=>by rw[←hq]
 have HQ:=Lib.hid hq2;clear hq hq2
 go_enter Try.func133,Try.ntmps133
 go_wp2
 go_loop [8] (fun i=>∃ k:Nat,k≤l.length∧i=.int .i64 k∧∀ j y,j<k→l[j]? = some y→q y=false) (fun i=>l.length-(intOf i).toNat)
 case atStart=>exact⟨0,Nat.zero_le _,rfl,fun _ _ h=>by omega⟩
 case round =>
  obtain⟨k,hk,rfl,hno⟩:=hrel
  by_cases hlt:k<l.length
  ·obtain⟨y,hy⟩:∃ y,l[k]? = some y:=⟨_,List.getElem?_eq_getElem hlt⟩
   obtain⟨b,off,rfl,hb,hcell⟩:=HC.out (by intro e;rw[e]at hlt;simp at hlt)
   have hc:=hcell k y hy
   have HY:=Lib.hid hy
   have HNO:=Lib.hid hno
   clear hcell hy hno
   by_cases he:q y=true
   ·have hyes:=any_at (p:=q) HY.out he
    have HF:=Lib.hid hyes;clear hyes
    have HE:=Lib.hid he;clear he
    go_wp2_with (go_at_call 115;refine (HCALL.out y).mono ?_;rw[HQ.out,HE.out];rintro e w1 ⟨rfl,rfl⟩)
    go_ret
    rw[HF.out]
    exact at_some (by omega)
   ·have he:q y=false:=by simpa using he
    have HE:=Lib.hid he;clear he
    go_wp2_with (go_at_call 115;refine (HCALL.out y).mono ?_;rw[HQ.out,HE.out];rintro e w1 ⟨rfl,rfl⟩)
    go_round
    case rel =>
     refine⟨k+1,by omega,by go_num,fun j z hj hz=>?_⟩
     by_cases e:j=k
     ·subst e;have:=HY.out.symm.trans hz;cases this;exact HE.out
     ·exact HNO.out j z (by omega) hz
    case measure=>simp[intOf];omega
  ·obtain rfl:k=l.length:=by omega
   have hyes:=any_prefix (p:=q) rfl hno
   have HF:=Lib.hid hyes;clear hyes hno
   go_wp2
   go_ret
   rw[HF.out]
   exact at_none
set_option maxHeartbeats 400000 in
set_option maxRecDepth 100000 in
theorem containsFunc_any (v:Value) (l:List Int) (p:Addr) (bv:Value) (lb:List Int) (w:World) (h:Nums .i64 w v l) (hp:w.cell? p=some bv) (hb:Nums .i64 w bv lb) :
  Calls Try.prog 114 #[v,.func (.func 115) #[] #[.pointer (some p)]] w (Tells (meetB l lb) w):=by
 have HCALL:=Lib.hid (indexFunc_any v l p bv lb w h hp hb)
 clear h hp hb
 go_enter Try.func114,Try.ntmps114
 go_wp2_with (go_at_call 133;refine HCALL.out.mono ?_;rintro e w1 ⟨r,rfl,hr,rfl⟩)
 go_ret
 exact⟨by rw[←hr];rfl,rfl⟩
def TellsS (p:Bool) (w:World) (e:Ending) (w':World):Prop:=e=.returned (.bool p)∧Since w w'
set_option maxHeartbeats 400000 in
set_option maxRecDepth 100000 in
theorem common_any (v bv:Value) (l lb:List Int) (w:World) (h:Nums .i64 w v l) (hb:Nums .i64 w bv lb) :
  Calls Try.prog 89 #[v,bv] w (TellsS (meetB l lb) w):=by
 obtain⟨a2,cap2,rfl⟩:=nums_lenI hb
 have hcell:(w.alloc (.cells #[.slice a2 lb.length cap2] 25)).cell? ⟨w.heap.size,0,none⟩=some (.slice a2 lb.length cap2):=by unfold World.cell?;rw[show (w.alloc (.cells #[.slice a2 lb.length cap2] 25)).heap[w.heap.size]? = _ from heap_last _ _];rfl
 have HC:=Lib.hid (containsFunc_any v l ⟨w.heap.size,0,none⟩ _ lb _ (h.keep ((Since.refl _).alloc _)) hcell (hb.keep ((Since.refl _).alloc _)))
 clear h hb hcell
 go_enter Try.func89,Try.ntmps89
 go_wp2_with (go_at_call 114;refine HC.out.mono ?_;rintro e w1 ⟨rfl,rfl⟩)
 go_ret
 exact⟨rfl,(Since.refl _).alloc _⟩
def strictB (op:Int):Bool:=op==24||op==25||op==28||op==26||op==27||op==17
def loadB (op:Int):Bool:=op==24||op==25
def dependsB (m n:Mach):Bool:=
 (strictB m.op&&strictB n.op&&!(loadB m.op&&loadB n.op))||meetB (changes m) (changes n)||meetB (changes m) (takes n)||meetB (changes n) (takes m)
def Two (p q:Bool) (w:World) (e:Ending) (w':World):Prop:=e=.returned (.tuple #[.bool p,.bool q])∧w=w'
set_option maxHeartbeats 1000000 in
set_option maxRecDepth 100000 in
theorem strict_any (op:Int) (w:World):Calls Try.prog 87 #[.int .i64 op] w (Two (strictB op) (loadB op) w):=by
 by_cases g24:op=24
 ·subst g24
  have e1:strictB 24=true:=rfl
  have e2:loadB 24=true:=rfl
  rw[e1,e2];clear e1 e2
  go_enter Try.func87,Try.ntmps87
  go_wp2
  go_ret2
  exact⟨rfl,rfl⟩
 by_cases g25:op=25
 ·subst g25
  have e1:strictB 25=true:=rfl
  have e2:loadB 25=true:=rfl
  rw[e1,e2];clear e1 e2
  go_enter Try.func87,Try.ntmps87
  go_wp2
  go_ret2
  exact⟨rfl,rfl⟩
 by_cases g28:op=28
 ·subst g28
  have e1:strictB 28=true:=rfl
  have e2:loadB 28=false:=rfl
  rw[e1,e2];clear e1 e2
  go_enter Try.func87,Try.ntmps87
  go_wp2
  go_ret2
  exact⟨rfl,rfl⟩
 by_cases g26:op=26
 ·subst g26
  have e1:strictB 26=true:=rfl
  have e2:loadB 26=false:=rfl
  rw[e1,e2];clear e1 e2
  go_enter Try.func87,Try.ntmps87
  go_wp2
  go_ret2
  exact⟨rfl,rfl⟩
 by_cases g27:op=27
 ·subst g27
  have e1:strictB 27=true:=rfl
  have e2:loadB 27=false:=rfl
  rw[e1,e2];clear e1 e2
  go_enter Try.func87,Try.ntmps87
  go_wp2
  go_ret2
  exact⟨rfl,rfl⟩
 by_cases g17:op=17
 ·subst g17
  have e1:strictB 17=true:=rfl
  have e2:loadB 17=false:=rfl
  rw[e1,e2];clear e1 e2
  go_enter Try.func87,Try.ntmps87
  go_wp2
  go_ret2
  exact⟨rfl,rfl⟩
 have e1:strictB op=false:=by simp[strictB,g24,g25,g28,g26,g27,g17]
 have e2:loadB op=false:=by simp[loadB,g24,g25]
 have n24:(op==24)=false:=by simpa using g24
 have n25:(op==25)=false:=by simpa using g25
 have n28:(op==28)=false:=by simpa using g28
 have n26:(op==26)=false:=by simpa using g26
 have n27:(op==27)=false:=by simpa using g27
 have n17:(op==17)=false:=by simpa using g17
 rw[e1,e2]
 clear e1 e2 g24 g25 g28 g26 g27 g17
 go_enter Try.func87,Try.ntmps87
 go_wp2
 go_ret2
 exact⟨rfl,rfl⟩
set_option maxHeartbeats 4000000 in
set_option maxRecDepth 100000 in
theorem depends_any (m n:Mach) (av bv:Value) (w:World) (h:Ints w av m.args) (h2:Ints w bv n.args) (hf:Fine m) (hf2:Fine n) :
  Calls Try.prog 58 #[mv m av,mv n bv] w (TellsS (dependsB m n) w):=by
 have H:=Lib.hid h;clear h
 have H2:=Lib.hid h2;clear h2
 have HX:=Lib.hid (fun w h=>changes_any m av w h hf)
 have HY:=Lib.hid (fun w h=>changes_any n bv w h hf2)
 have HTX:=Lib.hid (fun w h=>takes_any m av w h hf)
 have HTY:=Lib.hid (fun w h=>takes_any n bv w h hf2)
 clear hf hf2
 have S1:=Lib.hid (fun w=>strict_any m.op w)
 have S2:=Lib.hid (fun w=>strict_any n.op w)
 unfold dependsB
 have hways:(strictB m.op=false)∨(strictB m.op=true∧strictB n.op=false)∨(strictB m.op=true∧strictB n.op=true∧loadB m.op=false)∨(strictB m.op=true∧strictB n.op=true∧loadB m.op=true∧loadB n.op=false)∨(strictB m.op=true∧strictB n.op=true∧loadB m.op=true∧loadB n.op=true):=by
  cases strictB m.op<;>cases strictB n.op<;>cases loadB m.op<;>cases loadB n.op<;>simp
 generalize strictB m.op=s1 at *
 generalize strictB n.op=s2 at *
 generalize loadB m.op=l1 at *
 generalize loadB n.op=l2 at *
 unfold mv at HX HY HTX HTY ⊢
 rcases hways with rfl|⟨rfl,rfl⟩|⟨rfl,rfl,rfl⟩|⟨rfl,rfl,rfl,rfl⟩|⟨rfl,rfl,rfl,rfl⟩
 case' inr.inr.inl =>
  go_enter Try.func58,Try.ntmps58
  go_wp2_with fail
  refine (S1.out _).mono ?_
  rintro e w1 ⟨rfl,rfl⟩
  go_wp2_with fail
  refine (S2.out _).mono ?_
  rintro e w1 ⟨rfl,rfl⟩
  go_wp2
  go_ret
  exact⟨rfl,((Since.refl _).alloc _).alloc _⟩
 case' inr.inr.inr.inl =>
  go_enter Try.func58,Try.ntmps58
  go_wp2_with fail
  refine (S1.out _).mono ?_
  rintro e w1 ⟨rfl,rfl⟩
  go_wp2_with fail
  refine (S2.out _).mono ?_
  rintro e w1 ⟨rfl,rfl⟩
  go_wp2
  go_ret
  exact⟨rfl,((Since.refl _).alloc _).alloc _⟩
 all_goals
  simp only[Bool.false_and,Bool.and_false,Bool.and_true,Bool.not_true,Bool.false_or]
  go_enter Try.func58,Try.ntmps58
  go_wp2_with fail
  refine (S1.out _).mono ?_
  rintro e w1 ⟨rfl,rfl⟩
  go_wp2_with fail
  refine (S2.out _).mono ?_
  rintro e w1 ⟨rfl,rfl⟩
  go_wp2
  refine wp_region_list_facts rfl (by decide +kernel) (by decide +kernel)
   [Is (mv m av),IsNums .i64 (changes m),Is (mv n bv),IsNums .i64 (changes n),IsNums .i64 (changes m),IsNums .i64 (changes n)]
   ⟨Is.stable _,IsNums.stable _ _,Is.stable _,IsNums.stable _ _,IsNums.stable _ _,IsNums.stable _ _,trivial⟩ ⟨?_,?_,?_,?_,?_,?_,trivial⟩ ?_
  all_goals
   intro vs w1 hs hk
   have hc1:∀ i,w1.cell? ⟨w.heap.size,i,none⟩=_:=fun i=>hs.cell (p:=⟨w.heap.size,i,none⟩) (by simp;omega)
   have hc2:∀ i,w1.cell? ⟨w.heap.size+1,i,none⟩=_:=fun i=>hs.cell (p:=⟨w.heap.size+1,i,none⟩) (by simp)
   simp only[putAll,Act.put,Knows,KnowsAll,nthF,Is,List.setIfInBounds_toArray,List.set_cons_zero,List.set_cons_succ,Nat.reduceAdd,List.length_cons,List.length_nil]at hk ⊢
   try simp only[hk]
  ·go_wp2
   exact⟨_,rfl,rfl,Since.refl _⟩
  ·go_wp2_with fail
   refine (HX.out _ ((H.out.keep (((Since.refl _).alloc _).alloc _)).keep hs)).mono ?_
   rintro e w2 ⟨v,rfl,hv,hs2⟩
   go_wp2
   exact⟨_,rfl,hv,hs2⟩
  ·go_wp2
   exact⟨_,rfl,rfl,Since.refl _⟩
  ·go_wp2_with fail
   refine (HY.out _ ((H2.out.keep (((Since.refl _).alloc _).alloc _)).keep hs)).mono ?_
   rintro e w2 ⟨v,rfl,hv,hs2⟩
   go_wp2
   exact⟨_,rfl,hv,hs2⟩
  ·go_wp2
   exact⟨_,rfl,hk.1,Since.refl _⟩
  ·go_wp2
   exact⟨_,rfl,hk.1,Since.refl _⟩
  ·obtain⟨_,_,_,_,hx,hy,_⟩:=hk
   obtain⟨a1,c1,e1⟩:=nums_lenI hx
   obtain⟨a2,c2,e2⟩:=nums_lenI hy
   rw[e1]at hx ⊢
   rw[e2]at hy ⊢
   have X:=Lib.hid hx;clear hx
   have Y:=Lib.hid hy;clear hy
   have S0:Since w w1:=Since.trans (((Since.refl _).alloc _).alloc _) hs
   have CXY:=Lib.hid (common_any _ _ _ _ _ X.out Y.out)
   have CX:=Lib.hid (fun bv l w h hb=>common_any (.slice a1 (changes m).length c1) bv (changes m) l w h hb)
   have CY:=Lib.hid (fun bv l w h hb=>common_any (.slice a2 (changes n).length c2) bv (changes n) l w h hb)
   obtain⟨p1,h1⟩:∃ p,meetB (changes m) (changes n)=p:=⟨_,rfl⟩
   obtain⟨p2,h2⟩:∃ p,meetB (changes m) (takes n)=p:=⟨_,rfl⟩
   obtain⟨p3,h3⟩:∃ p,meetB (changes n) (takes m)=p:=⟨_,rfl⟩
   rw[h1]at CXY
   have P1:=Lib.hid h1
   have P2:=Lib.hid h2
   have P3:=Lib.hid h3
   clear h1 h2 h3 hc1 hc2
   cases p1 with
   | true =>
    go_wp2_with fail
    refine CXY.out.mono ?_
    rintro e w2 ⟨rfl,hs2⟩
    go_wp2
    go_ret
    exact⟨by rw[P1.out];rfl,S0.trans hs2⟩
   | false =>
    have hx:∀ i,w1.cell? ⟨w.heap.size,i,none⟩=_:=fun i=>hs.cell (p:=⟨w.heap.size,i,none⟩) (by simp;omega)
    have hy:∀ i,w1.cell? ⟨w.heap.size+1,i,none⟩=_:=fun i=>hs.cell (p:=⟨w.heap.size+1,i,none⟩) (by simp)
    have HX1:=Lib.hid hx
    have HY1:=Lib.hid hy
    clear hx hy
    go_wp2_with fail
    refine CXY.out.mono ?_
    rintro e w2 ⟨rfl,hs2⟩
    have hd:∀ i,w2.cell? ⟨w.heap.size+1,i,none⟩=_:=fun i=>(hs2.cell (p:=⟨w.heap.size+1,i,none⟩) (Nat.lt_of_lt_of_le (by simp) hs.size)).trans (HY1.out i)
    go_wp2_with fail
    refine (HTY.out _ (((H2.out.keep (((Since.refl _).alloc _).alloc _)).keep hs).keep hs2)).mono ?_
    rintro e w3 ⟨v3,rfl,hv3,hs3⟩
    obtain⟨a3,c3,e3⟩:=nums_lenI hv3
    rw[e3]at hv3 ⊢
    have V3:=Lib.hid hv3;clear hv3
    clear hd
    cases p2 with
    | true =>
     go_wp2_with fail
     refine (CX.out _ _ _ ((X.out.keep hs2).keep hs3) V3.out).mono ?_
     rw[P2.out]
     rintro e w4 ⟨rfl,hs4⟩
     go_wp2
     go_ret
     exact⟨by rw[P1.out,P2.out];rfl,((S0.trans hs2).trans hs3).trans hs4⟩
    | false =>
     go_wp2_with fail
     refine (CX.out _ _ _ ((X.out.keep hs2).keep hs3) V3.out).mono ?_
     rw[P2.out]
     rintro e w4 ⟨rfl,hs4⟩
     have hs24:=(hs2.trans hs3).trans hs4
     have hd:∀ i,w4.cell? ⟨w.heap.size,i,none⟩=_:=fun i=>(hs24.cell (p:=⟨w.heap.size,i,none⟩) (Nat.lt_of_lt_of_le (by simp;omega) hs.size)).trans (HX1.out i)
     go_wp2_with fail
     refine (HTX.out _ ((((H.out.keep (((Since.refl _).alloc _).alloc _)).keep hs).keep hs24))).mono ?_
     rintro e w5 ⟨v5,rfl,hv5,hs5⟩
     obtain⟨a5,c5,e5⟩:=nums_lenI hv5
     rw[e5]at hv5 ⊢
     have V5:=Lib.hid hv5;clear hv5
     clear hd
     go_wp2_with fail
     refine (CY.out _ _ _ ((Y.out.keep hs24).keep hs5) V5.out).mono ?_
     rw[P3.out]
     rintro e w6 ⟨rfl,hs6⟩
     cases p3<;>(go_wp2;go_ret;exact⟨by rw[P1.out,P2.out,P3.out];rfl,((S0.trans hs24).trans hs5).trans hs6⟩)
end Go.Proofs.Ytkpbmbhejpmboaa
