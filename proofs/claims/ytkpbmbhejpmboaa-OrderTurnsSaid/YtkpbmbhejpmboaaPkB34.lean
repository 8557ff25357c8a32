/- jacquardref07.Needs, jacquardref12.End: what an end may be, by the document. jacquardref12.Laid: an instruction that is laid in between. Rows of placed instructions of the call's own, and appends to them. jacquardref12.naive: an instruction with its operands out of slots. -/
import Derived.Test.YtkpbmbhejpmboaaPkB02
import Derived.Test.YtkpbmbhejpmboaaPkB10
import Derived.Test.YtkpbmbhejpmboaaPkB13
import Derived.Test.YtkpbmbhejpmboaaPkB32
import Derived.Test.YtkpbmbhejpmboaaPkB33
import Derived.Deep.CutRange
import Derived.Deep.CutBlock
namespace Go.Proofs.Ytkpbmbhejpmboaa
open Go.RowKit
set_option linter.unusedVariables false
set_option maxHeartbeats 1000000 in
set_option maxRecDepth 100000 in
theorem rneeds_any (e:EndV) (w:World) (ht:∃ a n c,e.tov=.slice a n c):Calls Try.prog 75 #[ev e] w (Gives w (needs e)):=by
 obtain⟨ta,tn,tc,htv⟩:=ht
 obtain⟨op,a,b,«to»,tov,imm⟩:=e
 dsimp only at htv
 subst htv
 unfold ev needs
 dsimp only
 by_cases g2:op=2
 ·subst g2
  rw[if_pos (by omega)]
  go_enter Try.func75,Try.ntmps75
  go_wp2
  go_ret
  exact gives_last ((Since.refl _).alloc _) [a] _ (by simp) rfl (show 1≤maxLen from by decide) rfl
 by_cases g6:op=6
 ·subst g6
  rw[if_pos (by omega)]
  go_enter Try.func75,Try.ntmps75
  go_wp2
  go_ret
  exact gives_last ((Since.refl _).alloc _) [a] _ (by simp) rfl (show 1≤maxLen from by decide) rfl
 have n2:(op==2)=false:=by simpa using g2
 have n6:(op==6)=false:=by simpa using g6
 by_cases g7:op=7
 ·subst g7
  by_cases ha:0≤a
  ·rw[if_pos (by omega)]
   go_enter Try.func75,Try.ntmps75
   go_wp2
   go_ret
   exact gives_last ((Since.refl _).alloc _) [a] _ (by simp) rfl (show 1≤maxLen from by decide) rfl
  ·rw[if_neg (by omega),if_neg (by omega)]
   have hd:decide (0≤a)=false:=decide_eq_false ha
   go_enter Try.func75,Try.ntmps75
   go_wp2
   go_ret
   exact gives_none ((Since.refl _).alloc _)
 rw[if_neg (by omega)]
 have n7:(op==7)=false:=by simpa using g7
 clear g2 g6 g7
 by_cases h3:3≤op
 ·by_cases h5:op≤5
  ·rw[if_pos ⟨h3,h5⟩]
   rcases (show op=3∨op=4∨op=5 by omega) with rfl|rfl|rfl
   all_goals
    go_enter Try.func75,Try.ntmps75
    go_wp2
    go_ret
    exact gives_last ((Since.refl _).alloc _) [a,b] _ (by simp) rfl (show 2≤maxLen from by decide) rfl
  ·rw[if_neg (by omega)]
   have n3:(op==3)=false:=by simp;omega
   have n4:(op==4)=false:=by simp;omega
   have n5:(op==5)=false:=by simp;omega
   go_enter Try.func75,Try.ntmps75
   go_wp2
   go_ret
   exact gives_none ((Since.refl _).alloc _)
 ·rw[if_neg (by omega)]
  have n3:(op==3)=false:=by simp;omega
  have n4:(op==4)=false:=by simp;omega
  have n5:(op==5)=false:=by simp;omega
  go_enter Try.func75,Try.ntmps75
  go_wp2
  go_ret
  exact gives_none ((Since.refl _).alloc _)
def plw (x:PlV):Value:=.agg #[.int .i64 x.m.op,.int .i64 x.m.d,.int .i64 x.m.e,.int .i64 x.m.a,.int .i64 x.m.b,.int .i64 x.m.c,.int .i32 x.m.imm,x.av,.int .i64 x.src]
def laidP (op reg n:Int):PlV:=⟨laidM op reg n,.slice none 0 0,-1⟩
set_option maxHeartbeats 1000000 in
set_option maxRecDepth 100000 in
theorem laid_any (op reg n:Int) (w:World) (ho:op=30∨op=31) (hr:0≤reg∧reg<4) (hn:0≤n∧n<100000) :
  Calls Try.prog 91 #[.int .i64 op,.int .i64 reg,.int .i64 n] w (fun e w'=>e=.returned (plw (laidP op reg n))∧Since w w'):=by
 rcases ho with rfl|rfl
 ·go_enter Try.func91,Try.ntmps91
  go_wp2_with fail
  try simp only[Exit.inBlock,Exit.then]
  refine bodyPost_ret (results_cell_row rfl _ _ w.heap.size 58 #[.int .i64 30,.int .i64 reg,.int .i64 0,.int .i64 0,.int .i64 0,.int .i64 0,.int .i32 n,.slice none 0 0,.int .i64 (-1)] (0,0) _ rfl ((HeapIs.new _ _ _).keep ((Since.refl _).alloc _)) Try.underlying58 rfl (by kernel_rfl)) rfl ?_
  exact⟨rfl,((Since.refl w).alloc _).alloc _⟩
 ·go_enter Try.func91,Try.ntmps91
  go_wp2_with fail
  try simp only[Exit.inBlock,Exit.then]
  refine bodyPost_ret (results_cell_row rfl _ _ w.heap.size 58 #[.int .i64 31,.int .i64 0,.int .i64 0,.int .i64 reg,.int .i64 0,.int .i64 0,.int .i32 n,.slice none 0 0,.int .i64 (-1)] (0,0) _ rfl ((HeapIs.new _ _ _).keep ((Since.refl _).alloc _)) Try.underlying58 rfl (by kernel_rfl)) rfl ?_
  exact⟨rfl,((Since.refl w).alloc _).alloc _⟩
structure PlNew (B:Nat) (S:Int) (w:World) (y:PlV):Prop where
 args:w.ownsRow B 3 1 y.av y.m.args.length (y.m.args.map (Value.int .i64))
 good:PGood S y.m
 src : -1≤y.src∧y.src≤5000
theorem PlNew.keep {B : Nat} {S : Int} {w w':World} {y : PlV} (h:PlNew B S w y) (s:Since w w'):PlNew B S w' y:=⟨own_keep h.args s,h.good,h.src⟩
theorem PlNew.base {B B':Nat} {S : Int} {w : World} {y : PlV} (h:PlNew B S w y) (hb:B'≤B):PlNew B' S w y:=by
 refine⟨?_,h.good,h.src⟩
 obtain⟨h0,h1|⟨g,c,u,h1,h2,h3⟩⟩:=h.args
 ·exact⟨h0,.inl h1⟩
 ·exact⟨h0,.inr ⟨g,c,u,h1,Nat.le_trans hb h2,h3⟩⟩
theorem PlNew.one {B : Nat} {S : Int} {w : World} {y : PlV} (h:PlNew B S w y):y.av.oneCell'=true:=by
 obtain⟨a,c,e⟩:=own_shape h.args
 rw[e];rfl
theorem PlNew.laid {B : Nat} {S op reg n:Int} {w : World} (ho:op=30∨op=31) (hr:0≤reg∧reg<4) (hn:0≤n∧n<S) (hS:S≤16384):PlNew B S w (laidP op reg n):=by
 have ha:(laidM op reg n).args=[]:=by unfold laidM;split<;>rfl
 refine⟨?_,laid_good ho hr hn hS,by show (-1:Int)≤-1∧(-1:Int)≤5000;decide⟩
 show w.ownsRow B 3 1 (.slice none 0 0) (laidM op reg n).args.length ((laidM op reg n).args.map (Value.int .i64))
 rw[ha]
 exact⟨rfl,.inl ⟨rfl,rfl⟩⟩
def GoodRow (B:Nat) (S:Int) (k:Nat) (v:Value) (w:World):Prop:=∃ xs:List PlV,xs.length≤k∧RowIn plcells 9 (fun _ _=>True) w v xs∧∀ y∈xs,PlNew B S w y
theorem GoodRow.stable (B:Nat) (S:Int) (k:Nat):Stable (GoodRow B S k):=fun v w w' ⟨xs,h1,h2,h3⟩ s=>⟨xs,h1,RowIn.keep (fun _ _ _ _ _=>trivial) h2 s,fun y hy=>(h3 y hy).keep s⟩
theorem row_of_heap {w : World} {q : Nat} {T : TypeId} (xs:List PlV) (cs:Array Value) (hc:cs=(xs.flatMap plcells).toArray) (h:HeapIs w q cs T) (k:Nat) (hk:k=xs.length) (hm:xs.length≤1000):RowIn plcells 9 (fun _ _=>True) w (.slice (some ⟨q,0,none⟩) k k) xs:=by
 subst hk;subst hc
 refine .inr ⟨q,0,xs.length,rfl,Nat.le_refl _,by unfold maxLen;omega,h.lt,fun j x hj=>⟨fun t ht=>?_,trivial⟩⟩
 have h1:=h.cell (j*9+t)
 rw[List.getElem?_toArray,flat_at plcells 9 plcells_len xs j t x hj ht]at h1
 rw[show 0+j*9+t=j*9+t from by omega]
 exact h1
theorem laid30_cells (reg n:Int):plcells (laidP 30 reg n)=[.int .i64 30,.int .i64 reg,.int .i64 0,.int .i64 0,.int .i64 0,.int .i64 0,.int .i32 n,.slice none 0 0,.int .i64 (-1)]:=by
 have h:laidM 30 reg n={ op:=30,d:=reg,e:=0,a:=0,b:=0,c:=0,imm:=n,args:=[] }:=if_neg (by decide)
 unfold laidP plcells
 dsimp only
 rw[h]
theorem laid31_cells (reg n:Int):plcells (laidP 31 reg n)=[.int .i64 31,.int .i64 0,.int .i64 0,.int .i64 reg,.int .i64 0,.int .i64 0,.int .i32 n,.slice none 0 0,.int .i64 (-1)]:=by
 have h:laidM 31 reg n={ op:=31,d:=0,e:=0,a:=reg,b:=0,c:=0,imm:=n,args:=[] }:=if_pos rfl
 unfold laidP plcells
 dsimp only
 rw[h]
theorem plw_cells (x:PlV):plw x=.agg (plcells x).toArray:=rfl
theorem laid30_any (reg n:Int) (w:World) (hr:0≤reg∧reg<4) (hn:0≤n∧n<100000) :
  Calls Try.prog 91 #[.int .i64 30,.int .i64 reg,.int .i64 n] w (fun e w'=>e=.returned (.agg #[.int .i64 30,.int .i64 reg,.int .i64 0,.int .i64 0,.int .i64 0,.int .i64 0,.int .i32 n,.slice none 0 0,.int .i64 (-1)])∧Since w w'):=
 (laid_any 30 reg n w (.inl rfl) hr hn).mono fun e w' h=>⟨h.1.trans (by rw[plw_cells,laid30_cells]),h.2⟩
theorem laid31_any (reg n:Int) (w:World) (hr:0≤reg∧reg<4) (hn:0≤n∧n<100000) :
  Calls Try.prog 91 #[.int .i64 31,.int .i64 reg,.int .i64 n] w (fun e w'=>e=.returned (.agg #[.int .i64 31,.int .i64 0,.int .i64 0,.int .i64 reg,.int .i64 0,.int .i64 0,.int .i32 n,.slice none 0 0,.int .i64 (-1)])∧Since w w'):=
 (laid_any 31 reg n w (.inr rfl) hr hn).mono fun e w' h=>⟨h.1.trans (by rw[plw_cells,laid31_cells]),h.2⟩
theorem row30 {w : World} {q : Nat} {T : TypeId} {reg n:Int} (h:HeapIs w q #[.int .i64 30,.int .i64 reg,.int .i64 0,.int .i64 0,.int .i64 0,.int .i64 0,.int .i32 n,.slice none 0 0,.int .i64 (-1)] T):RowIn plcells 9 (fun _ _=>True) w (.slice (some ⟨q,0,none⟩) 1 1) [laidP 30 reg n]:=
 row_of_heap [laidP 30 reg n] _ (by rw[List.flatMap_cons,List.flatMap_nil,List.append_nil,laid30_cells]) h 1 rfl (by show 1≤1000;omega)
theorem row31 {w : World} {q : Nat} {T : TypeId} {reg n:Int} (h:HeapIs w q #[.int .i64 31,.int .i64 0,.int .i64 0,.int .i64 reg,.int .i64 0,.int .i64 0,.int .i32 n,.slice none 0 0,.int .i64 (-1)] T):RowIn plcells 9 (fun _ _=>True) w (.slice (some ⟨q,0,none⟩) 1 1) [laidP 31 reg n]:=
 row_of_heap [laidP 31 reg n] _ (by rw[List.flatMap_cons,List.flatMap_nil,List.append_nil,laid31_cells]) h 1 rfl (by show 1≤1000;omega)
theorem row3031 {w : World} {q : Nat} {T : TypeId} {reg n reg2 n2:Int} (h:HeapIs w q #[.int .i64 30,.int .i64 reg,.int .i64 0,.int .i64 0,.int .i64 0,.int .i64 0,.int .i32 n,.slice none 0 0,.int .i64 (-1),.int .i64 31,.int .i64 0,.int .i64 0,.int .i64 reg2,.int .i64 0,.int .i64 0,.int .i32 n2,.slice none 0 0,.int .i64 (-1)] T):RowIn plcells 9 (fun _ _=>True) w (.slice (some ⟨q,0,none⟩) 2 2) [laidP 30 reg n,laidP 31 reg2 n2]:=
 row_of_heap [laidP 30 reg n,laidP 31 reg2 n2] _ (by rw[List.flatMap_cons,List.flatMap_cons,List.flatMap_nil,List.append_nil,laid30_cells,laid31_cells];rfl) h 2 rfl (by show 2≤1000;omega)
theorem wpList_append_rows {α:Type} {P : Program} {base:Nat} {w : World} {ops:Array Oper} {rest:List Oper} {o : Oper} {a : Act} {Q : Exit→Act→World→Prop} (f:α→List Value) (sz:Nat) (hf:∀ x,(f x).length=sz) (hsz:0<sz) (hgd:o.guard=none) (s x:Operand) (t:TypeId)
  (ho:o.op=.call { callee:=.builtin .append,args:=#[s,x],argTypes:=#[t,t] })
  (e:TypeId) (z:Value) (bytes:Nat) (ht:P.underlying t=some (.slice e)) (hinfo:(P.info? e).map (fun i=>(i.zero,i.size,i.bytes))=some (some z,sz,bytes)) (hz:z.cells.size=sz) (hby:bytes≤1000)
  (v xv:Value) (l ys:List α) (hs:a.eval s=v) (hx:a.eval x=xv) (hown:OwnRow f sz e base w v l) (hl2:SrcIs w xv ys.length (ys.flatMap f)) (h1:∀ u∈ys.flatMap f,u.oneCell'=true)
  (hlen:l.length+ys.length≤1000000) (hbase:base≤w.heap.size)
  (h:∀ v' w',OwnRow f sz e base w' v' (l++ys)→Turn (fun k=>v.ownBlock=some k) w w'→NewOr w v v'→wpList P ops Q rest (a.put o.dst v') w'):wpList P ops Q (o::rest) a w:=by
 obtain⟨i,hi,hz0,hz1,hz2⟩:=info_parts hinfo
 have hb2:(l.length+ys.length)*bytes≤140737488355328:=by
  have:=Nat.mul_le_mul hlen hby
  omega
 have hcells:∀ {n : Nat} {v':Value} {w':World},n=l.length+ys.length→w'.ownsRow base e sz v' n (l.flatMap f++ys.flatMap f)→OwnRow f sz e base w' v' (l++ys):=fun {n v' w'} hn h2=>by
  unfold OwnRow
  rw[List.length_append,List.flatMap_append,←hn]
  exact h2
 rcases hl2 with ⟨ad,hv,hm,hys⟩|⟨ad,c,hv,hcell⟩
 ·obtain rfl:ys=[]:=List.length_eq_zero_iff.1 hm
  cases ad with
  | none=>exact wpList_append_own_none hgd s x t ho base e i sz ht hi v _ _ hs hown (hx.trans hv) (h v w (by rw[List.append_nil];exact hown) (Turn.refl _ _) fun q hq=>.inl hq)
  | some ad =>
   refine wpList_append_own2 hgd s x t ho base e i z sz bytes ht hi hz0 hz1 hz2 hz hsz v _ _ hs hown ad 0 0 [] (hx.trans hv) (by simp) (fun j u hu=>by cases hu) (fun u hu=>by cases hu) (by unfold maxLen;simp at hlen;omega) (by simpa using hb2) hbase ?_
   intro v' w' hown' t h4
   exact h v' w' (hcells rfl (by simpa using hown')) t h4
 ·refine wpList_append_own2 hgd s x t ho base e i z sz bytes ht hi hz0 hz1 hz2 hz hsz v _ _ hs hown ad ys.length c (ys.flatMap f) (hx.trans hv) (flat_sz f sz hf ys) hcell h1 (by unfold maxLen;omega) hb2 hbase ?_
  intro v' w' hown' t h4
  exact h v' w' (hcells rfl hown') t h4
theorem pl_one {B : Nat} {S : Int} {w : World} {xs:List PlV} (h:∀ y∈xs,PlNew B S w y):∀ u∈xs.flatMap plcells,u.oneCell'=true:=by
 intro u hu
 obtain⟨y,hy,hu2⟩:=List.mem_flatMap.1 hu
 have:=(h y hy).one
 simp only[plcells,List.mem_cons,List.not_mem_nil,or_false]at hu2
 rcases hu2 with rfl|rfl|rfl|rfl|rfl|rfl|rfl|rfl|rfl<;>first|rfl|exact this
theorem PlNew.turn {B B2:Nat} {S : Int} {w w':World} {y : PlV} {v : Value} {n : Nat} {xs:List Value} (h:PlNew B S w y) (hown:w.ownsRow B2 58 9 v n xs) (t:Turn (fun q=>v.ownBlock=some q) w w'):PlNew B S w' y:=
 ⟨own_turn h.args t fun q hq e=>own_apart h.args hown (by decide) q hq e,h.good,h.src⟩
theorem nums_turn {T : Nat→Prop} {w w':World} {k : IntKind} {v : Value} {l : List Int} (h:Nums k w v l) (t:Turn T w w') (hn:l≠[]→∀ q,v.ownBlock=some q→¬ T q):Nums k w' v l:=by
 by_cases e:l=[]
 ·subst e
  rcases h with h|⟨b,off,cap,h1,h2,h3,h4,h5⟩
  ·exact .inl h
  ·exact .inr ⟨b,off,cap,h1,h2,h3,Nat.lt_of_lt_of_le h4 t.size,fun j n hj=>by cases hj⟩
 ·exact h.turn t (hn e)
theorem nums_far {w : World} {k : IntKind} {v : Value} {l : List Int} {ob:Nat} {T : TypeId} (h:Nums k w v l) (hob:HeapIs w ob #[] T) (hl:l≠[]):∀ q,v.ownBlock=some q→q≠ob∧q<w.heap.size:=by
 intro q hq
 rcases h with ⟨_,_,h2⟩|⟨b,off,cap,h1,_,_,h4,h5⟩
 ·exact absurd h2 hl
 ·subst h1
  have e:b=q:=Option.some.inj hq
  subst e
  refine⟨fun e=>?_,h4⟩
  subst e
  obtain⟨n,hn⟩:∃ n,l[0]? = some n:=⟨_,List.getElem?_eq_getElem (by cases l with|nil=>exact absurd rfl hl|cons x r=>exact Nat.succ_pos _)⟩
  have h6:=h5 0 n hn
  rw[hob.cell]at h6
  simp at h6
structure NvA (w0 w3:World) (S:Int) (xb ob:Nat) (xc:Array Value) (tv dv:Value) (tl dl:List Int) (v:Value) (pls:List PlV) (wr:World):Prop where
 row:OwnRow plcells 9 58 w0.heap.size wr v pls
 each:∀ y∈pls,PlNew w0.heap.size S wr y
 box:HeapIs wr xb xc 46
 tk:Nums .i64 wr tv tl
 dk:Nums .i64 wr dv dl
 old:Since w0 wr
 at_:∀ q,v.ownBlock=some q→q=ob∨w3.heap.size≤q
 far:(tl≠[]→∀ q,tv.ownBlock=some q→q≠ob∧q<w3.heap.size)∧(dl≠[]→∀ q,dv.ownBlock=some q→q≠ob∧q<w3.heap.size)
 size:w3.heap.size≤wr.heap.size
section
variable {w0 w3 wr w2 w6:World} {S : Int} {xb ob:Nat} {xc:Array Value} {tv dv v v':Value} {tl dl:List Int} {pls ys:List PlV}
theorem NvA.keep (h:NvA w0 w3 S xb ob xc tv dv tl dl v pls wr) (s:Since wr w2):NvA w0 w3 S xb ob xc tv dv tl dl v pls w2:=
 ⟨h.row.keep s,fun y hy=>(h.each y hy).keep s,h.box.keep s,h.tk.keep s,h.dk.keep s,h.old.trans s,h.at_,h.far,Nat.le_trans h.size s.size⟩
theorem NvA.add (h:NvA w0 w3 S xb ob xc tv dv tl dl v pls wr) (hown:OwnRow plcells 9 58 w0.heap.size w6 v' (pls++ys)) (t:Turn (fun q=>v.ownBlock=some q) wr w6) (hnew:NewOr wr v v') (hy:∀ y∈ys,PlNew w0.heap.size S wr y):NvA w0 w3 S xb ob xc tv dv tl dl v' (pls++ys) w6:=by
 have hlo:∀ q,v.ownBlock=some q→w0.heap.size≤q:=fun q hq=>(World.ownsRow.lt (show wr.ownsRow _ _ _ _ _ _ from h.row) q hq).1
 refine⟨hown,fun y hm=>?_,h.box.turn t (own_not h.row h.box (by decide)),nums_turn h.tk t fun hl q hq e=>?_,nums_turn h.dk t fun hl q hq e=>?_,t.toSince h.old fun k hk e=>by have:=hlo k e;omega,fun q hq=>?_,h.far,Nat.le_trans h.size t.size⟩
 ·rcases List.mem_append.1 hm with hm|hm
  ·exact (h.each y hm).turn h.row t
  ·exact (hy y hm).turn h.row t
 ·have h1:=h.far.1 hl q hq
  rcases h.at_ q e with h2|h2
  ·exact h1.1 h2
  ·omega
 ·have h1:=h.far.2 hl q hq
  rcases h.at_ q e with h2|h2
  ·exact h1.1 h2
  ·omega
 ·rcases hnew q hq with h1|h1
  ·exact h.at_ q h1
  ·exact .inr (Nat.le_trans h.size h1)
end
def rangeI (k:Nat):List Int:=(List.range k).map fun (t:Nat)=>(t:Int)
theorem rangeI_succ (k:Nat):rangeI (k+1)=rangeI k++[(k:Int)]:=by unfold rangeI;rw[List.range_succ,List.map_append];rfl
theorem rangeI_len (k:Nat):(rangeI k).length=k:=by unfold rangeI;simp
def MidN (w8:World) (m:Mach) (yb:Nat) (e:Int) (wx:World):Prop:=∃ a c,HeapIs wx yb #[.int .i64 m.op,.int .i64 0,.int .i64 e,.int .i64 0,.int .i64 (nvM m).b,.int .i64 (nvM m).c,.int .i32 m.imm,.slice a (nvM m).args.length c] 46∧wx.ownsRow w8.heap.size 3 1 (.slice a (nvM m).args.length c) (nvM m).args.length ((nvM m).args.map (Value.int .i64))∧Since w8 wx
set_option maxHeartbeats 4000000 in
set_option maxRecDepth 100000 in
theorem naive_any (x:MaV) (frm:Int) (w:World) (S:Int) (hx:Ints w x.av x.m.args) (hg:MGood x.m) (hr:∀ r∈takes7 x.m++makes7 x.m,r<S) (hS:S≤16384) (hf:0≤frm∧frm≤5000) :
  Calls Try.prog 92 #[mav x,.int .i64 frm] w (fun e w'=>∃ v,e=.returned v∧GoodRow w.heap.size S 7 v w'∧Since w w'):=by
 obtain⟨m,av⟩:=x
 dsimp only at hx hg hr
 have hl4:=hg.few
 have HT4:=Lib.hid (takes7_few hg)
 have HD2:=Lib.hid (makes7_few (i:=m))
 have HTI:=Lib.hid (fun r (h:r∈takes7 m)=>And.intro (takes7_in hg r h).1 (hr r (List.mem_append_left _ h)))
 have HDI:=Lib.hid (fun r (h:r∈makes7 m)=>And.intro (makes7_in hg r h).1 (hr r (List.mem_append_right _ h)))
 have HG:=Lib.hid hg
 have HX:=Lib.hid hx
 clear hx hg hr
 unfold mav
 dsimp only
 go_enter Try.func92,Try.ntmps92
 go_upto_region 2 with fail
 obtain⟨xc,hxc⟩:∃ z:Array Value,z=#[.int .i64 m.op,.int .i64 m.d,.int .i64 m.e,.int .i64 m.a,.int .i64 m.b,.int .i64 m.c,.int .i32 m.imm,av]:=⟨_,rfl⟩
 obtain⟨w1,hw1⟩:∃ z,z=(w.alloc (.cells xc 46)).alloc (.cells #[] 58):=⟨_,rfl⟩
 have HS1:=Lib.hid (show Since w w1 from by rw[hw1];exact ((Since.refl w).alloc _).alloc _)
 obtain⟨xb,hxb⟩:∃ z,z=w.heap.size:=⟨_,rfl⟩
 obtain⟨ob,hob⟩:∃ z,z=w.heap.size+1:=⟨_,rfl⟩
 have HXB:=Lib.hid (show HeapIs w1 xb xc 46 from by rw[hw1,hxb];exact (HeapIs.new _ _ _).keep ((Since.refl _).alloc _))
 have HOB:=Lib.hid (show HeapIs w1 ob #[] 58 from by
  rw[hw1,hob]
  have h9:=HeapIs.new (w.alloc (.cells xc 46)) #[] 58
  rw[show (w.alloc (.cells xc 46)).heap.size=w.heap.size+1 from by simp]at h9
  exact h9)
 rw[←hxc,←hw1,←hob,←hxb]
 have HZ:=Lib.hid (show w.heap.size≤ob from by omega)
 have HXC:=Lib.hid hxc
 clear hw1 hxb hob hxc
 have hld:HeapIs w1 xb #[.int .i64 m.op,.int .i64 m.d,.int .i64 m.e,.int .i64 m.a,.int .i64 m.b,.int .i64 m.c,.int .i32 m.imm,av] 46:=by rw[←HXC.out];exact HXB.out
 go_wp2_with (refine wpList_load_row rfl _ _ rfl xb rfl 46 _ (0,0) _ hld Try.underlying46 rfl (by kernel_rfl) ?_)
 refine (rtakes7_any m av w1 (HX.out.keep HS1.out) (by omega)).mono ?_
 rintro e w2 ⟨tv,rfl,htv,hs2⟩
 have HTV:=Lib.hid htv
 have HS2:=Lib.hid hs2
 clear htv hs2 hld
 have hld:HeapIs w2 xb #[.int .i64 m.op,.int .i64 m.d,.int .i64 m.e,.int .i64 m.a,.int .i64 m.b,.int .i64 m.c,.int .i32 m.imm,av] 46:=by rw[←HXC.out];exact HXB.out.keep HS2.out
 go_wp2_with (refine wpList_load_row rfl _ _ rfl xb rfl 46 _ (0,0) _ hld Try.underlying46 rfl (by kernel_rfl) ?_)
 refine (rmakes7_any m av w2 (HX.out.keep (HS1.out.trans HS2.out)) (by omega)).mono ?_
 rintro e w3 ⟨dv,rfl,hdv,hs3⟩
 have HOB3:=Lib.hid (HOB.out.keep (HS2.out.trans hs3))
 have HNV:=Lib.hid (show NvA w w3 S xb ob xc tv dv (takes7 m) (makes7 m) (.slice (some ⟨ob,0,none⟩) 0 0) [] w3 from
  ⟨⟨by simp,.inr ⟨ob,0,#[],rfl,HZ.out,HOB3.out,by simp,by unfold maxLen;omega,by simp,by simp⟩⟩,fun y hy=>(by cases hy),HXB.out.keep (HS2.out.trans hs3),HTV.out.keep hs3,hdv,(HS1.out.trans HS2.out).trans hs3,fun q hq=>.inl (Option.some.inj hq).symm,⟨fun hl q hq=>nums_far (HTV.out.keep hs3) HOB3.out hl q hq,fun hl q hq=>nums_far hdv HOB3.out hl q hq⟩,Nat.le_refl _⟩)
 obtain⟨ta,tc,htv⟩:=nums_lenI HTV.out
 obtain⟨da,dc,hdv2⟩:=nums_lenI hdv
 obtain⟨tn,htn⟩:∃ z,(takes7 m).length=z:=⟨_,rfl⟩
 obtain⟨dn,hdn⟩:∃ z,(makes7 m).length=z:=⟨_,rfl⟩
 rw[htn]at htv
 rw[hdn]at hdv2
 subst htv hdv2
 have HTN:=Lib.hid htn
 have HDN:=Lib.hid hdn
 have htn4:tn≤4:=by rw[←htn];exact HT4.out
 have hdn2:dn≤2:=by rw[←hdn];exact HD2.out
 clear hdv hs3 hld htn hdn HTV HOB HXB
 go_wp2_with fail
 go_loopw [5,8] (fun ov kv wr=>∃ (k:Nat) (v:Value) (pls:List PlV),ov=v∧kv=.int .i64 k∧k≤tn∧pls.length=k∧NvA w w3 S xb ob xc (.slice ta tn tc) (.slice da dn dc) (takes7 m) (makes7 m) v pls wr) (fun _ kv _=>tn-(intOf kv).toNat)
 case atStart=>exact⟨0,_,[],rfl,rfl,Nat.zero_le _,rfl,HNV.out⟩
 case round =>
  obtain⟨k,v,pls,rfl,rfl,hk,hpl,hst⟩:=hrel
  obtain⟨va,vc,hv⟩:=OwnRow.shape hst.row
  rw[hpl]at hv
  subst hv
  have HST:=Lib.hid hst
  have HPL:=Lib.hid hpl
  clear hst hpl HNV
  by_cases hlt:k<tn
  ·obtain⟨r,hr⟩:∃ r,(takes7 m)[k]? = some r:=⟨_,List.getElem?_eq_getElem (by rw[HTN.out];exact hlt)⟩
   obtain⟨TB,toff,rfl,hTB,hcr⟩:=nums_read HST.out.tk hr
   have hrb:=HTI.out r (List.mem_of_getElem? hr)
   clear hr
   go_wp2_with fail
   refine (laid30_any k r wr (by omega) (by omega)).mono ?_
   rintro e w4 ⟨rfl,hs4⟩
   have HS4:=Lib.hid hs4
   clear hs4 hcr
   have HAT:=Lib.hid (HST.out.keep HS4.out)
   have HPN:=Lib.hid (show PlNew w.heap.size S w4 (laidP 30 k r) from PlNew.laid (.inl rfl) (by omega) hrb hS)
   go_wp2_with (refine wpList_append_rows (base:=w.heap.size) plcells 9 plcells_len (by decide) rfl _ _ 54 rfl 58 (.agg #[.int .i64 0,.int .i64 0,.int .i64 0,.int .i64 0,.int .i64 0,.int .i64 0,.int .i32 0,.slice none 0 0,.int .i64 0]) 88 Try.underlying54 (by kernel_rfl) rfl (by decide) (.slice va k vc) (.slice (some ⟨w4.heap.size,0,none⟩) 1 1) pls [laidP 30 k r] rfl rfl (HAT.out.keep ((Since.refl _).alloc _)).row (srcRow plcells_len (by decide) (row30 (HeapIs.new _ _ _))) (pl_one (fun y hy=>by rw[List.mem_singleton.1 hy];exact HPN.out)) (by have:=HPL.out;simp;omega) (by have:=HAT.out.old.size;simp;omega) ?_;intro v' w6 hown ht hnew;have HADD:=Lib.hid ((HAT.out.keep ((Since.refl _).alloc _)).add hown ht hnew (fun y hy=>by rw[List.mem_singleton.1 hy];exact HPN.out.keep ((Since.refl _).alloc _)));clear hown ht hnew)
   go_roundw
   case rel=>exact⟨k+1,_,pls++[laidP 30 k r],by trivial,by go_num,by omega,by rw[List.length_append,HPL.out];rfl,HADD.out⟩
   case measure=>simp[intOf];omega
  ·obtain rfl:tn=k:=by omega
   obtain⟨wA,hwA⟩:∃ z,z=wr:=⟨_,rfl⟩
   subst hwA
   have HTK:=Lib.hid HST.out.tk
   have hxb8:HeapIs wA xb #[.int .i64 m.op,.int .i64 m.d,.int .i64 m.e,.int .i64 m.a,.int .i64 m.b,.int .i64 m.c,.int .i32 m.imm,av] 46:=by rw[←HXC.out];exact HST.out.box
   have hx0:=hxb8.cell 0
   have hx6:=hxb8.cell 6
   have hxl:=hxb8.lt
   go_upto_if 39 with fail
   obtain⟨yb,hyb⟩:∃ z,z=wA.heap.size:=⟨_,rfl⟩
   obtain⟨w8,hw8⟩:∃ z,z=wA.alloc (.cells #[.int .i64 m.op,.int .i64 0,.int .i64 0,.int .i64 0,.int .i64 0,.int .i64 0,.int .i32 m.imm,.slice none 0 0] 46):=⟨_,rfl⟩
   have HYB:=Lib.hid (show HeapIs w8 yb #[.int .i64 m.op,.int .i64 0,.int .i64 0,.int .i64 0,.int .i64 0,.int .i64 0,.int .i32 m.imm,.slice none 0 0] 46 from by rw[hw8,hyb];exact HeapIs.new _ _ _)
   have HS8:=Lib.hid (show Since wA w8 from by rw[hw8];exact (Since.refl wA).alloc _)
   have HYL:=Lib.hid (show wA.heap.size≤yb from Nat.le_of_eq hyb.symm)
   rw[←hw8,←hyb]
   clear hw8 hyb hxb8 hx0 hx6 hxl
   go_cut [] from 37 to 63 (fun wx=>MidN wA m yb 0 wx)
   case first =>
    have HRB:=Lib.hid (show w8.heap.size≥yb from by have:=HYB.out.lt;omega)
    have hy:=HYB.out
    have hyl:=hy.lt
    have hyf:=hy.frozen
    have hy2:=hy.cell 2
    have hy4:=hy.cell 4
    have hy5:=hy.cell 5
    have hy7:=hy.cell 7
    clear hy
    obtain⟨bq,hbq⟩:∃ z,(m.op==28)=z:=⟨_,rfl⟩
    rw[hbq]
    cases bq
    ·have HOP:=Lib.hid (show ¬ m.op=28 from by simpa using hbq)
     clear hbq
     have hargs:(nvM m).args=[]:=if_neg HOP.out
     have hb0:(nvM m).b=if 1<(takes7 m).length then 1 else 0:=if_neg HOP.out
     have hc0:(nvM m).c=if 2<(takes7 m).length then 2 else 0:=if_neg HOP.out
     rw[HTN.out]at hb0 hc0
     have HAB:=Lib.hid (And.intro hargs (And.intro hb0 hc0))
     clear hargs hb0 hc0
     have hfin:∀ (wx:World) (bb cc:Int),(nvM m).b=bb→(nvM m).c=cc→HeapIs wx yb #[.int .i64 m.op,.int .i64 0,.int .i64 0,.int .i64 0,.int .i64 bb,.int .i64 cc,.int .i32 m.imm,.slice none 0 0] 46→Since wA wx→MidN wA m yb 0 wx:=fun wx bb cc e1 e2 hh hs=>by
      unfold MidN
      rw[HAB.out.1,e1,e2]
      exact⟨none,0,hh,⟨rfl,.inl ⟨rfl,rfl⟩⟩,hs⟩
     have HFIN:=Lib.hid hfin
     have hst:∀ (wx:World) (j:Nat) (v:Value),Since wA wx→Since wA (wx.setCell ⟨yb,j,none⟩ v):=fun wx j v hs=>((Turn.refl (fun q=>q=yb) wx).setCell (p:=⟨yb,j,none⟩) rfl _).toSince hs fun q hq e=>by have:=HYL.out;omega
     have HSTO:=Lib.hid hst
     clear hfin hst
     by_cases h1:1<tn
     ·by_cases h2:2<tn
      ·go_wp2_with fail
       go_meet
       exact HFIN.out _ 1 2 (by rw[HAB.out.2.1,if_pos h1]) (by rw[HAB.out.2.2,if_pos h2]) ((HYB.out.set 4 _).set 5 _) (HSTO.out _ _ _ (HSTO.out _ _ _ HS8.out))
      ·go_wp2_with fail
       go_meet
       exact HFIN.out _ 1 0 (by rw[HAB.out.2.1,if_pos h1]) (by rw[HAB.out.2.2,if_neg h2]) (HYB.out.set 4 _) (HSTO.out _ _ _ HS8.out)
     ·have h2:¬ 2<tn:=by omega
      go_wp2_with fail
      go_meet
      exact HFIN.out _ 0 0 (by rw[HAB.out.2.1,if_neg h1]) (by rw[HAB.out.2.2,if_neg h2]) HYB.out HS8.out
    ·have HOP:=Lib.hid (show m.op=28 from by simpa using hbq)
     clear hbq
     go_wp2_with fail
     go_loopw [10] (fun kv wx=>∃ (k:Nat) (a:Option Addr) (c:Nat),kv=.int .i64 k∧k≤tn∧HeapIs wx yb #[.int .i64 m.op,.int .i64 0,.int .i64 0,.int .i64 0,.int .i64 0,.int .i64 0,.int .i32 m.imm,.slice a k c] 46∧wx.ownsRow wA.heap.size 3 1 (.slice a k c) k ((rangeI k).map (Value.int .i64))∧Since wA wx) (fun kv _=>tn-(intOf kv).toNat)
     case atStart=>exact⟨0,none,0,rfl,Nat.zero_le _,HYB.out,⟨rfl,.inl ⟨rfl,rfl⟩⟩,HS8.out⟩
     case round =>
      clear hyl hyf hy2 hy4 hy5 hy7
      obtain⟨k2,a2,c2,rfl,hk2,hyb2,hown2,hs2⟩:=hrel
      have HY2:=Lib.hid hyb2
      have HO2:=Lib.hid hown2
      have HS22:=Lib.hid hs2
      have hy7:=hyb2.cell 7
      have hyl:=hyb2.lt
      clear hyb2 hown2 hs2
      by_cases hlt2:k2<tn
      ·have K1:=Lib.hid (show (wr.alloc (.cells #[.int .i64 (k2:Int)] 3)).ownsRow wA.heap.size 3 1 (.slice a2 k2 c2) (rangeI k2).length ((rangeI k2).map (Value.int .i64)) from own_keep (by rw[rangeI_len];exact HO2.out) ((Since.refl _).alloc _))
       have K2:=Lib.hid (show (rangeI k2).length + [(k2:Int)].length≤1000000 from by rw[rangeI_len];simp;omega)
       have K3:=Lib.hid (show wA.heap.size≤(wr.alloc (.cells #[.int .i64 (k2:Int)] 3)).heap.size from by have:=HS22.out.size;simp;omega)
       have K4:=Lib.hid (show HeapIs (wr.alloc (.cells #[.int .i64 (k2:Int)] 3)) yb #[.int .i64 m.op,.int .i64 0,.int .i64 0,.int .i64 0,.int .i64 0,.int .i64 0,.int .i32 m.imm,.slice a2 k2 c2] 46 from HY2.out.keep ((Since.refl _).alloc _))
       have K5:=Lib.hid (show ¬ (Value.slice a2 k2 c2).ownBlock=some yb from own_not HO2.out HY2.out (by decide))
       go_wp2_with (refine wpList_append_nums2 (base:=wA.heap.size) .i64 rfl _ _ 25 rfl 3 (.int .i64 0) 8 Try.underlying25 Try.info3 rfl (by decide) (.slice a2 k2 c2) _ (rangeI k2) [(k2:Int)] rfl rfl K1.out (one_nums _ _ _) K2.out K3.out ?_;intro v6 w6 hown6 ht6 hnew6;obtain⟨a6,c6,hv6⟩:=own_shape hown6;rw[←rangeI_succ,rangeI_len]at hown6 hv6;subst hv6;have hyb6:=K4.out.turn ht6 K5.out;have HY6:=Lib.hid hyb6;have hy7:=hyb6.cell 7;have hyl:=hyb6.lt;have hyf:=hyb6.frozen;have HO6:=Lib.hid hown6;have HS6:=Lib.hid (show Since wA w6 from ht6.toSince (HS22.out.trans ((Since.refl _).alloc _)) fun q hq e=>by have:=(World.ownsRow.lt HO2.out q e).1;omega);clear hyb6 hown6 ht6 hnew6)
       go_roundw
       case rel=>exact⟨k2+1,a6,c6,by go_num,by omega,HY6.out.set 7 _,own_turn HO6.out ((Turn.refl (fun q=>q=yb) w6).setCell (p:=⟨yb,7,none⟩) rfl _) (fun q hq e=>own_not HO6.out HY6.out (by decide) (e ▸ hq)),((Turn.refl (fun q=>q=yb) w6).setCell (p:=⟨yb,7,none⟩) rfl _).toSince HS6.out fun q hq e=>by have:=HYL.out;omega⟩
       case measure=>simp[intOf];omega
      ·obtain rfl:tn=k2:=by omega
       go_wp2_with fail
       go_meet
       have hargs:(nvM m).args=rangeI (takes7 m).length:=if_pos HOP.out
       have hb0:(nvM m).b=0:=if_pos HOP.out
       have hc0:(nvM m).c=0:=if_pos HOP.out
       unfold MidN
       rw[hargs,rangeI_len,hb0,hc0,HTN.out]
       exact⟨a2,c2,HY2.out,HO2.out,HS22.out⟩
   case rest =>
    obtain⟨a9,c9,hy9,hown9,hs9⟩:=hcut
    have HY9:=Lib.hid hy9
    have HO9:=Lib.hid hown9
    have HS9:=Lib.hid hs9
    have hxb9:HeapIs wc xb #[.int .i64 m.op,.int .i64 m.d,.int .i64 m.e,.int .i64 m.a,.int .i64 m.b,.int .i64 m.c,.int .i32 m.imm,av] 46:=by rw[←HXC.out];exact HST.out.box.keep hs9
    have hx0:=hxb9.cell 0
    have hxl:=hxb9.lt
    clear hy9 hown9 hs9 hxb9
    go_upto_if 62 with fail
    clear hx0 hxl
    go_cut [] from 60 to 63 (fun wx=>MidN wA m yb (nvM m).e wx)
    case first =>
     have hyl:=HY9.out.lt
     have hyf:=HY9.out.frozen
     have hy2:=HY9.out.cell 2
     obtain⟨bq,hbq⟩:∃ z,(m.op==29)=z:=⟨_,rfl⟩
     rw[hbq]
     cases bq
     ·have HE:=Lib.hid (show (nvM m).e=0 from if_neg (by simpa using hbq))
      clear hbq
      go_wp2_with fail
      go_meet
      unfold MidN
      rw[HE.out]
      exact⟨a9,c9,HY9.out,HO9.out,HS9.out⟩
     ·have HE:=Lib.hid (show (nvM m).e=1 from if_pos (by simpa using hbq))
      clear hbq
      go_wp2_with fail
      go_meet
      unfold MidN
      rw[HE.out]
      have t9:Turn (fun q=>q=yb) wc (wc.setCell ⟨yb,2,none⟩ (.int .i64 1)):=(Turn.refl (fun q=>q=yb) wc).setCell (p:=⟨yb,2,none⟩) rfl _
      exact⟨a9,c9,HY9.out.set 2 _,own_turn HO9.out t9 (fun q hq e=>own_not HO9.out HY9.out (by decide) (e ▸ hq)),t9.toSince HS9.out fun q hq e=>by have:=HYL.out;omega⟩
    case rest =>
     clear HY9 HO9 HS9
     obtain⟨a9,c9,hy9,hown9,hs9⟩:=hcut
     obtain⟨an,han⟩:∃ z,(nvM m).args.length=z:=⟨_,rfl⟩
     rw[han]at hy9 hown9
     have HY9:=Lib.hid hy9
     have HAT:=Lib.hid (HST.out.keep hs9)
     have HPN:=Lib.hid (show PlNew w.heap.size S wc ⟨nvM m,.slice a9 an c9,frm⟩ from⟨by
      rw[han]
      obtain⟨h0,h1|⟨g,c,u,h1,h2,h3⟩⟩:=hown9
      ·exact⟨h0,.inl h1⟩
      ·exact⟨h0,.inr ⟨g,c,u,h1,Nat.le_trans HST.out.old.size h2,h3⟩⟩,nv_good HG.out S,by show -1≤frm∧frm≤5000;omega⟩)
     have HRW:=Lib.hid (fun (wx:World)=>show RowIn plcells 9 (fun _ _=>True) (wx.alloc (.cells #[.int .i64 m.op,.int .i64 0,.int .i64 (nvM m).e,.int .i64 0,.int .i64 (nvM m).b,.int .i64 (nvM m).c,.int .i32 m.imm,.slice a9 an c9,.int .i64 frm] 58)) (.slice (some ⟨wx.heap.size,0,none⟩) 1 1) [⟨nvM m,.slice a9 an c9,frm⟩] from row_of_heap [⟨nvM m,.slice a9 an c9,frm⟩] _ (flat_one plcells _) (HeapIs.new _ _ _) 1 rfl (by show 1≤1000;omega))
     clear hy9 hown9 hs9 han
     go_wp2_with (first | refine wpList_load_row rfl _ _ rfl yb rfl 46 _ (0,0) _ HY9.out Try.underlying46 rfl (by kernel_rfl) ?_ | (refine wpList_append_rows (base:=w.heap.size) plcells 9 plcells_len (by decide) rfl _ _ 54 rfl 58 (.agg #[.int .i64 0,.int .i64 0,.int .i64 0,.int .i64 0,.int .i64 0,.int .i64 0,.int .i32 0,.slice none 0 0,.int .i64 0]) 88 Try.underlying54 (by kernel_rfl) rfl (by decide) (.slice va tn vc) (.slice (some ⟨wc.heap.size,0,none⟩) 1 1) pls [⟨nvM m,.slice a9 an c9,frm⟩] rfl rfl (HAT.out.keep ((Since.refl _).alloc _)).row (srcRow plcells_len (by decide) (HRW.out wc)) (pl_one (fun y hy=>by rw[List.mem_singleton.1 hy];exact HPN.out)) (by have:=HPL.out;simp;omega) (by have:=HAT.out.old.size;simp;omega) ?_;intro v' w6 hown ht hnew;have HADD:=Lib.hid ((HAT.out.keep ((Since.refl _).alloc _)).add hown ht hnew (fun y hy=>by rw[List.mem_singleton.1 hy];exact HPN.out.keep ((Since.refl _).alloc _)));clear hown ht hnew))
     obtain⟨pn,hpn⟩:∃ z,tn+1=z:=⟨_,rfl⟩
     have HPL2:=Lib.hid (show (pls++[(⟨nvM m,.slice a9 an c9,frm⟩:PlV)]).length=pn from by rw[List.length_append,HPL.out,←hpn];rfl)
     obtain⟨pls2,hpls2⟩:∃ z,z=pls++[(⟨nvM m,.slice a9 an c9,frm⟩:PlV)]:=⟨_,rfl⟩
     rw[←hpls2]at HPL2 HADD
     have hpn5:pn≤5:=by omega
     clear hpls2 hpn HPL HAT HPN HRW HY9
     go_loopw [5,11] (fun ov kv wr=>∃ (k:Nat) (v:Value) (pls:List PlV),ov=v∧kv=.int .i64 k∧k≤dn∧pls.length=pn+k∧NvA w w3 S xb ob xc (.slice ta tn tc) (.slice da dn dc) (takes7 m) (makes7 m) v pls wr) (fun _ kv _=>dn-(intOf kv).toNat)
     case atStart=>exact⟨0,_,pls2,rfl,rfl,Nat.zero_le _,HPL2.out,HADD.out⟩
     case round =>
      clear HADD HPL2
      obtain⟨k,v,pls,rfl,rfl,hk,hpl,hst⟩:=hrel
      obtain⟨va,vc,hv⟩:=OwnRow.shape hst.row
      obtain⟨ql,hql⟩:∃ z,pn+k=z:=⟨_,rfl⟩
      rw[hpl,hql]at hv
      rw[hql]at hpl
      subst hv
      have HST:=Lib.hid hst
      have HPL:=Lib.hid hpl
      have HQL:=Lib.hid hql
      have hql7:ql≤7:=by omega
      clear hst hpl hql
      by_cases hlt:k<dn
      ·obtain⟨r,hr⟩:∃ r,(makes7 m)[k]? = some r:=⟨_,List.getElem?_eq_getElem (by rw[HDN.out];exact hlt)⟩
       obtain⟨TB,toff,rfl,hTB,hcr⟩:=nums_read HST.out.dk hr
       have hrb:=HDI.out r (List.mem_of_getElem? hr)
       clear hr
       go_wp2_with fail
       refine (laid31_any k r wr (by omega) (by omega)).mono ?_
       rintro e w4 ⟨rfl,hs4⟩
       have HS4:=Lib.hid hs4
       clear hs4 hcr
       have HAT:=Lib.hid (HST.out.keep HS4.out)
       have HPN:=Lib.hid (show PlNew w.heap.size S w4 (laidP 31 k r) from PlNew.laid (.inr rfl) (by omega) hrb hS)
       go_wp2_with (refine wpList_append_rows (base:=w.heap.size) plcells 9 plcells_len (by decide) rfl _ _ 54 rfl 58 (.agg #[.int .i64 0,.int .i64 0,.int .i64 0,.int .i64 0,.int .i64 0,.int .i64 0,.int .i32 0,.slice none 0 0,.int .i64 0]) 88 Try.underlying54 (by kernel_rfl) rfl (by decide) (.slice va ql vc) (.slice (some ⟨w4.heap.size,0,none⟩) 1 1) pls [laidP 31 k r] rfl rfl (HAT.out.keep ((Since.refl _).alloc _)).row (srcRow plcells_len (by decide) (row31 (HeapIs.new _ _ _))) (pl_one (fun y hy=>by rw[List.mem_singleton.1 hy];exact HPN.out)) (by have:=HPL.out;simp;omega) (by have:=HAT.out.old.size;simp;omega) ?_;intro v' w6 hown ht hnew;have HADD:=Lib.hid ((HAT.out.keep ((Since.refl _).alloc _)).add hown ht hnew (fun y hy=>by rw[List.mem_singleton.1 hy];exact HPN.out.keep ((Since.refl _).alloc _)));clear hown ht hnew)
       go_roundw
       case rel=>exact⟨k+1,_,pls++[laidP 31 k r],by trivial,by go_num,by omega,by rw[List.length_append,HPL.out,←HQL.out];rfl,HADD.out⟩
       case measure=>simp[intOf];omega
      ·obtain rfl:dn=k:=by omega
       go_wp2_with fail
       go_ret
       exact⟨_,rfl,⟨pls,by rw[HPL.out];exact hql7,row_own_in plcells_len HST.out.row fun _ _=>trivial,HST.out.each⟩,HST.out.old⟩
end Go.Proofs.Ytkpbmbhejpmboaa
