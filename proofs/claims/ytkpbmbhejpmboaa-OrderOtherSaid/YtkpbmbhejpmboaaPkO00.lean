/- OrderOther: what is told of a program with something another one. A program of which a block is turned: rows of blocks and of instructions of the call's own. Rows of instructions of the call's own: one is set, or its From; what is read of a row that is copied. jacquardref12.Naive: the function. jacq -/
import Derived.Test.YtkpbmbhejpmboaaPkB03
import Derived.Test.YtkpbmbhejpmboaaPkB04
import Derived.Test.YtkpbmbhejpmboaaPkB05
import Derived.Test.YtkpbmbhejpmboaaPkB07
import Derived.Test.YtkpbmbhejpmboaaPkB09
import Derived.Test.YtkpbmbhejpmboaaPkB10
import Derived.Test.YtkpbmbhejpmboaaPkB13
import Derived.Test.YtkpbmbhejpmboaaPkB27
import Derived.Test.YtkpbmbhejpmboaaPkB38
import Derived.Test.YtkpbmbhejpmboaaPkB39
import Derived.Test.YtkpbmbhejpmboaaPkB41
import Derived.Test.YtkpbmbhejpmboaaPkB44
import Derived.WalkKit
import Derived.WalkSpells
import Derived.WalkLawsBesides
import Derived.Test.YtkpbmbhejpmboaaRows
import Derived.Lib.Hide
import Derived.Laws.AppendOwnNone
import Derived.Laws.EntriesVeiled
import Derived.RegionTactic
import Derived.Lib.AppendZeros
import Derived.Deep.QuietTactic
import Derived.BigQuiet
import Derived.Deep.Slices
import Derived.WideShapes
import Derived.ChangeAlike
import Derived.RangeFuncNested
import Derived.RangeFuncBound
import Derived.RangeFuncCalls
import Derived.RangeFuncLeaves
import Derived.Shelf.Abstract
import Derived.Shelf.RegionOpen
import Derived.OwnWalkIn
import Derived.TacticsInMore
import Derived.LoopNIn
import Derived.LoopIn
import Derived.OwnWalk
import Derived.Laws.CopyOwn
import Derived.Laws.BitsLemmas
import Derived.Laws.Rows
import Derived.Deep.CutBlock
import Derived.Deep.MidRow
import Derived.Deep.CutRange
namespace Go.Proofs.Ytkpbmbhejpmboaa
open Go.RowKit
set_option linter.unusedVariables false
theorem blockGo_self (l:List PlV):blockGo l l (List.replicate l.length false) 0=none:=by
 have h:=blocks_self (p:=⟨l,.slice none 0 0,⟨7,0,0,[],.slice none 0 0,0⟩⟩) (q:=⟨l,.slice none 0 0,⟨7,0,0,[],.slice none 0 0,0⟩⟩) rfl rfl
 unfold blocksE at h
 rw[if_pos rfl]at h
 dsimp only at h
 cases hg:blockGo l l (List.replicate l.length false) 0 with
 | none=>rfl
 | some i=>rw[hg]at h;cases h
theorem blockGo_app (l:List PlV):∀ (a r:List PlV) (found:List Bool) (i:Nat),blockGo l (a++r) found i=none→∃ f,∀ r',blockGo l (a++r') found i=blockGo l r' f (i+a.length)
 | [],r,found,i,h=>⟨found,fun r'=>rfl⟩
 | x::a,r,found,i,h=>by
  rw[List.cons_append]at h
  unfold blockGo at h
  split at h
  ·cases h
  ·rename_i hn
   obtain⟨f,hf⟩:=blockGo_app l a r _ _ h
   refine⟨f,fun r'=>?_⟩
   rw[List.cons_append]
   show (if findI l found x<0 then some i else blockGo l (a++r') (found.set (findI l found x).toNat true) (i+1))=_
   rw[if_neg hn,hf r',List.length_cons,show i+1+a.length=i+(a.length+1) from by omega]
theorem findR_no {l : List PlV} {x : PlV}:∀ ks:List (Fin l.length),(∀ y∈l,y.src≠x.src)→findR l x ks=-1
 | [],_=>rfl
 | k::r,h=>by
  unfold findR
  have h1:sameB x (l.get k)=false:=by
   unfold sameB
   rw[Bool.and_eq_false_iff]
   left
   rw[beq_eq_false_iff_ne]
   exact fun e=>h _ (List.get_mem l k) e.symm
  rw[h1,if_neg (by decide),findR_no r h]
  split<;>rfl
theorem block_src {a : List PlV} {y y':PlV} {v v':Value} {e : EndV} (hs:∀ z∈a++[y],z.src≠y'.src):blocksE ⟨a++[y],v,e⟩ ⟨a++[y'],v',e⟩=(a.length,false):=by
 unfold blocksE
 rw[if_pos (by simp)]
 dsimp only
 obtain⟨f,hf⟩:=blockGo_app (a++[y]) a [y] _ _ (blockGo_self (a++[y]))
 rw[hf [y']]
 unfold blockGo
 rw[show findI (a++[y]) f y'=-1 from findR_no _ hs,if_pos (by decide),Nat.zero_add]
 rfl
theorem block_end {l : List PlV} {v v':Value} {e e':EndV} (h:sameEndB e e'=false):blocksE ⟨l,v,e⟩ ⟨l,v',e'⟩=(l.length,false):=by
 unfold blocksE
 rw[if_pos rfl]
 dsimp only
 rw[blockGo_self,h]
 rfl
theorem block_more {l : List PlV} {y : PlV} {v v':Value} {e e':EndV}:blocksE ⟨l,v,e⟩ ⟨l++[y],v',e'⟩=(l.length,false):=by
 unfold blocksE
 rw[if_neg (by simp)]
 simp
theorem check_set {p q:PrgV} {b pl:Nat} {x y:BlkV} (hp:rightB p=true) (hq:rightB q=true) (h1:q.params=p.params) (h2:q.k=p.k) (h3:q.slots=p.slots) (h4:q.blocks=p.blocks.set b y) (hb:p.blocks[b]? = some x) (hx:blocksE x y=(pl,false)):checkE p q=(50,b,pl):=by
 have hlt:=(List.getElem?_eq_some_iff.1 hb).1
 unfold checkE
 rw[hp,hq,if_pos (show (true&&true)=true from rfl)]
 have hh:headB p q=true:=by unfold headB;rw[h1,h2,h3,h4];simp
 rw[hh,if_pos rfl]
 have hy:q.blocks[b]? = some y:=by rw[h4,List.getElem?_set_self hlt]
 rw[checkGo_some p.blocks q.blocks 0 b x y hb hy (by rw[hx]) fun s a c hs ha hc=>?_,hx]
 ·show ((50:Int),0+b,pl)=_
  rw[Nat.zero_add]
 ·rw[h4,List.getElem?_set_ne (by omega),ha]at hc
  cases hc
  exact blocks_self rfl rfl
theorem check_slots {p q:PrgV} (hp:rightB p=true) (hq:rightB q=true) (h:q.slots≠p.slots):checkE p q=(50,0,0):=by
 unfold checkE
 rw[hp,hq,if_pos (show (true&&true)=true from rfl)]
 have hh:headB p q=false:=by
  unfold headB
  rw[Bool.and_eq_false_iff];right
  rw[Bool.and_eq_false_iff];right
  rw[Bool.and_eq_false_iff];left
  rw[beq_eq_false_iff_ne]
  exact fun e=>h e.symm
 rw[hh,if_neg (by decide)]
theorem PGood.more {S S':Int} {m : Mach} (h:PGood S m) (hS:S≤S'):PGood S' m:=⟨h.shape,h.regs,fun hs=>by have:=h.slot hs;omega,h.imm,h.fine⟩
theorem ptotal_set {l : List BlkV} {b : Nat} {x y:BlkV} (hb:l[b]? = some x) (hl:y.ins.length≤x.ins.length+1):ptotal (l.set b y)≤ptotal l+1:=by
 induction l generalizing b with
 | nil=>cases hb
 | cons a r ih =>
  cases b with
  | zero =>
   cases hb
   show ptotal (y::r)≤_
   unfold ptotal
   simp only[List.length_cons,List.map_cons,List.sum_cons]
   omega
  | succ b =>
   have h1:=ih (b:=b) hb
   show ptotal (a::r.set b y)≤_
   unfold ptotal at h1 ⊢
   simp only[List.length_cons,List.map_cons,List.sum_cons,List.length_set]at h1 ⊢
   omega
theorem PrgGood.set {p q:PrgV} {b : Nat} {x y:BlkV} (h:PrgGood p) (h1:q.params=p.params) (h2:q.k=p.k) (h3:q.slots=p.slots) (h4:q.blocks=p.blocks.set b y) (hb:p.blocks[b]? = some x) (hy:BGood p.slots p.blocks.length y) (hl:y.ins.length≤x.ins.length+1):rightB q=true:=by
 have ht:=ptotal_set (y:=y) hb hl
 refine right_of (by rw[h1];exact h.params) (by rw[h2];exact h.k) (by rw[h3];have:=h.slots;omega) (by rw[h4,List.length_set];have:=h.blocks;omega) (by rw[h4];have:=h.total;omega) fun c hc=>?_
 rw[h4]at hc ⊢
 rw[List.length_set,h3]
 rcases List.mem_or_eq_of_mem_set hc with hc|rfl
 ·exact⟨(h.each c hc).ins,(h.each c hc).fin⟩
 ·exact⟨hy.ins,hy.fin⟩
theorem PrgGood.more {p q:PrgV} (h:PrgGood p) (h1:q.params=p.params) (h2:q.k=p.k) (h3:q.slots=p.slots+1) (h4:q.blocks=p.blocks):rightB q=true:=by
 refine right_of (by rw[h1];exact h.params) (by rw[h2];exact h.k) (by rw[h3];have:=h.slots;omega) (by rw[h4];have:=h.blocks;omega) (by rw[h4];have:=h.total;omega) fun c hc=>?_
 rw[h4]at hc ⊢
 rw[h3]
 exact⟨fun x hx=>((h.each c hc).ins x hx).more (by omega),(h.each c hc).fin⟩
theorem li_good (S:Int):PGood S { op:=3,d:=2,e:=0,a:=0,b:=0,c:=0,imm:=0,args:=[] }:=by
 refine⟨rfl,badReg_of fun r hr=>?_,fun h=>(by cases h),rfl,⟨by decide,by decide,by decide⟩⟩
 have h2:r∈[(2:Int)]:=hr
 rw[List.mem_singleton.1 h2];decide
theorem trap_good (n:Int) (i:Int) (v:Value):EGood n ⟨8,0,0,[],v,i⟩:=⟨rfl,rfl,fun t ht=>by cases ht⟩
open Go.RowKit Go.ChangeShapes Go.WideShapes
theorem flat_set6:∀ (l:List BlkV) (b:Nat) (X:BlkV),b<l.length →
  ((((((l.flatMap blcells).set (b*6) X.insv).set (b*6+1) (.int .i64 X.fin.op)).set (b*6+2) (.int .i64 X.fin.a)).set (b*6+3) (.int .i64 X.fin.b)).set (b*6+4) X.fin.tov).set (b*6+5) (.int .i32 X.fin.imm)=(l.set b X).flatMap blcells
 | [],b,X,h=>absurd h (by simp)
 | a::r,0,X,_=>by
  rw[List.flatMap_cons,List.set_cons_zero,List.flatMap_cons]
  simp only[blcells,List.cons_append,List.nil_append,Nat.zero_mul,Nat.zero_add,List.set_cons_zero,List.set_cons_succ]
 | a::r,b+1,X,h=>by
  have hb:b<r.length:=by simpa using h
  have e:∀ (t:Nat) (L:List Value) (v:Value),(blcells a++L).set ((b+1)*6+t) v=blcells a++L.set (b*6+t) v:=fun t L v=>by
   rw[List.set_append_right _ _ (by rw[blcells_len];omega),blcells_len,show (b+1)*6+t-6=b*6+t from by omega]
  have e0:∀ (L:List Value) (v:Value),(blcells a++L).set ((b+1)*6) v=blcells a++L.set (b*6) v:=fun L v=>e 0 L v
  rw[List.flatMap_cons,e0,e,e,e,e,e,flat_set6 r b X hb]
  rfl
theorem row_setBlk {B : Nat} {w : World} {g cap n:Nat} {l : List BlkV} {b : Nat} (X:BlkV) (h:OwnRow blcells 6 56 B w (.slice (some ⟨g,0,none⟩) n cap) l) (hb:b<l.length) :
  OwnRow blcells 6 56 B ((((((w.setCell ⟨g,b*6,none⟩ X.insv).setCell ⟨g,b*6+1,none⟩ (.int .i64 X.fin.op)).setCell ⟨g,b*6+2,none⟩ (.int .i64 X.fin.a)).setCell ⟨g,b*6+3,none⟩ (.int .i64 X.fin.b)).setCell ⟨g,b*6+4,none⟩ X.fin.tov).setCell ⟨g,b*6+5,none⟩ (.int .i32 X.fin.imm)) (.slice (some ⟨g,0,none⟩) n cap) (l.set b X):=by
 obtain⟨a',c',e⟩:=own_shape (show w.ownsRow _ _ _ _ _ _ from h)
 have hn:n=l.length:=by cases e;rfl
 subst hn
 have h1:=own_setCell (own_setCell (own_setCell (own_setCell (own_setCell (own_setCell (show w.ownsRow _ _ _ _ _ _ from h) (b*6) X.insv) (b*6+1) (.int .i64 X.fin.op)) (b*6+2) (.int .i64 X.fin.a)) (b*6+3) (.int .i64 X.fin.b)) (b*6+4) X.fin.tov) (b*6+5) (.int .i32 X.fin.imm)
 rw[flat_set6 l b X hb]at h1
 unfold OwnRow
 rw[List.length_set]
 exact h1
theorem flat_src:∀ (l:List PlV) (b:Nat) (y:PlV) (z:Int),l[b]? = some y→(l.flatMap plcells).set (b*9+8) (.int .i64 z)=(l.set b ⟨y.m,y.av,z⟩).flatMap plcells
 | [],b,y,z,h=>by cases h
 | a::r,0,y,z,h=>by
  cases h
  rw[List.flatMap_cons,List.set_cons_zero,List.flatMap_cons]
  simp only[plcells,List.cons_append,List.nil_append,Nat.zero_mul,Nat.zero_add,List.set_cons_zero,List.set_cons_succ]
 | a::r,b+1,y,z,h=>by
  rw[List.flatMap_cons,List.set_append_right _ _ (by rw[plcells_len];omega),plcells_len,show (b+1)*9+8-9=b*9+8 from by omega,flat_src r b y z h]
  rfl
theorem row_setSrc {B : Nat} {w : World} {g cap n:Nat} {l : List PlV} {b : Nat} {y : PlV} (z:Int) (h:OwnRow plcells 9 58 B w (.slice (some ⟨g,0,none⟩) n cap) l) (hb:l[b]? = some y) :
  OwnRow plcells 9 58 B (w.setCell ⟨g,b*9+8,none⟩ (.int .i64 z)) (.slice (some ⟨g,0,none⟩) n cap) (l.set b ⟨y.m,y.av,z⟩):=by
 obtain⟨a',c',e⟩:=own_shape (show w.ownsRow _ _ _ _ _ _ from h)
 have hn:n=l.length:=by cases e;rfl
 subst hn
 have h1:=own_setCell (show w.ownsRow _ _ _ _ _ _ from h) (b*9+8) (.int .i64 z)
 rw[flat_src l b y z hb]at h1
 unfold OwnRow
 rw[List.length_set]
 exact h1
theorem MadeP.keep {B : Nat} {w w':World} {p : PrgV} (h:MadeP B w p) (s:Since w w'):MadeP B w' p:=⟨h.params,h.slots,h.blocks,h.row.keep s,fun x hx=>(h.each x hx).keep s,h.total⟩
def restI (x n:Int):Int:=(x.tmod n+n) % n
theorem tmod_bd (x n:Int) (hn:0<n) : -n<x.tmod n∧x.tmod n<n:=by
 have h1:=Int.tmod_lt_of_pos x hn
 have h2:=Int.tmod_lt_of_pos (-x) hn
 rw[Int.neg_tmod]at h2
 omega
theorem restI_bd (x n:Int) (hn:0<n):0≤restI x n∧restI x n<n:=by
 have h:=tmod_bd x n hn
 exact⟨Int.emod_nonneg _ (by omega),Int.emod_lt_of_pos _ hn⟩
def NumQ (x:Int) (w:World) (e:Ending) (w':World):Prop:=e=.returned (.int .i64 x)∧w=w'
set_option maxHeartbeats 400000 in
set_option maxRecDepth 100000 in
theorem rest_any (x n:Int) (w:World) (hn:0<n) (hn2:n≤1000):Calls Try.prog 38 #[.int .i64 x,.int .i64 n] w (NumQ (restI x n) w):=by
 have hb:=tmod_bd x n hn
 obtain⟨h1,h2⟩:=hb
 have h0:(n==0)=false:=by simpa using (by omega:n≠0)
 go_enter Try.func38,Try.ntmps38
 go_wp2
 go_ret
 exact⟨rfl,rfl⟩
def FrT (l:List (Nat × Value)) (a:Act):Prop:=a.tmps.size=122∧a.defers=[]∧Sl l a
theorem frT_mk {l : List (Nat × Value)} {a : Act} (h1:a.tmps.size=122) (h2:a.defers=[]) (h3:Sl l a):FrT l a:=⟨h1,h2,h3⟩
set_option maxRecDepth 1000000 in
theorem litT_range (u:Nat→Value):(u 0::u 1::u 2::u 3::u 4::u 5::u 6::u 7::u 8::u 9::u 10::u 11::u 12::u 13::u 14::u 15::u 16::u 17::u 18::u 19::u 20::u 21::u 22::u 23::u 24::u 25::u 26::u 27::u 28::u 29::u 30::u 31::u 32::u 33::u 34::u 35::u 36::u 37::u 38::u 39::u 40::u 41::u 42::u 43::u 44::u 45::u 46::u 47::u 48::u 49::u 50::u 51::u 52::u 53::u 54::u 55::u 56::u 57::u 58::u 59::u 60::u 61::u 62::u 63::u 64::u 65::u 66::u 67::u 68::u 69::u 70::u 71::u 72::u 73::u 74::u 75::u 76::u 77::u 78::u 79::u 80::u 81::u 82::u 83::u 84::u 85::u 86::u 87::u 88::u 89::u 90::u 91::u 92::u 93::u 94::u 95::u 96::u 97::u 98::u 99::u 100::u 101::u 102::u 103::u 104::u 105::u 106::u 107::u 108::u 109::u 110::u 111::u 112::u 113::u 114::u 115::u 116::u 117::u 118::u 119::u 120::u 121::[]:List Value).toArray=((List.range 122).map u).toArray:=by kernel_rfl
set_option maxRecDepth 1000000 in
theorem frameT_ex {l : List (Nat × Value)} {a : Act} (h:FrT l a):∃ u:Nat→Value,a=⟨(u 0::u 1::u 2::u 3::u 4::u 5::u 6::u 7::u 8::u 9::u 10::u 11::u 12::u 13::u 14::u 15::u 16::u 17::u 18::u 19::u 20::u 21::u 22::u 23::u 24::u 25::u 26::u 27::u 28::u 29::u 30::u 31::u 32::u 33::u 34::u 35::u 36::u 37::u 38::u 39::u 40::u 41::u 42::u 43::u 44::u 45::u 46::u 47::u 48::u 49::u 50::u 51::u 52::u 53::u 54::u 55::u 56::u 57::u 58::u 59::u 60::u 61::u 62::u 63::u 64::u 65::u 66::u 67::u 68::u 69::u 70::u 71::u 72::u 73::u 74::u 75::u 76::u 77::u 78::u 79::u 80::u 81::u 82::u 83::u 84::u 85::u 86::u 87::u 88::u 89::u 90::u 91::u 92::u 93::u 94::u 95::u 96::u 97::u 98::u 99::u 100::u 101::u 102::u 103::u 104::u 105::u 106::u 107::u 108::u 109::u 110::u 111::u 112::u 113::u 114::u 115::u 116::u 117::u 118::u 119::u 120::u 121::[]).toArray,[]⟩∧∀ i v,a.tmps[i]? = some v→u i=v:=by
 obtain⟨t,d⟩:=a
 obtain⟨h1,h2,_⟩:=h
 dsimp only at h1 h2
 obtain⟨u,hu⟩:∃ u:Nat→Value,∀ i,u i=t.getD i undef:=⟨fun i=>t.getD i undef,fun _=>rfl⟩
 refine⟨u,?_,fun i v hv=>?_⟩
 ·rw[h2]
  refine congrArg (fun x=>Act.mk x []) (Eq.trans ?_ (litT_range u).symm)
  apply Array.ext
  ·simp[h1]
  ·intro i g1 g2
   simp[g1,hu]
 ·rw[hu,Array.getD_eq_getD_getElem?,show t[i]? = some v from hv];rfl
end Go.Proofs.Ytkpbmbhejpmboaa
