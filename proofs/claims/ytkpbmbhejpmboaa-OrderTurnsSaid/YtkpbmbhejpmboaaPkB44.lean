/- The reference's Depends. Plain: both Depends say the same, and go both ways. order.Orders. jacquardlaw17.awake. -/
import Derived.Test.YtkpbmbhejpmboaaPkB03
import Derived.Test.YtkpbmbhejpmboaaPkB33
import Derived.Test.YtkpbmbhejpmboaaPkB43
namespace Go.Proofs.Ytkpbmbhejpmboaa
open Go.RowKit
set_option linter.unusedVariables false
def IsRow (W0:World) (l:List Int) (v:Value) (w:World):Prop:=w.ownsRow W0.heap.size 3 1 v l.length (l.map (Value.int .i64))
theorem IsRow.stable (W0:World) (l:List Int):Stable (IsRow W0 l):=by
 rintro v w w' ⟨h1,h2⟩ hs
 refine⟨h1,h2.imp id ?_⟩
 rintro⟨g,cap,cur,e1,e2,e3,e4⟩
 exact⟨g,cap,cur,e1,e2,(hs.block g (Array.getElem?_eq_some_iff.1 e3).1).trans e3,e4⟩
abbrev box (m:Mach) (av:Value):Obj:=.cells #[.int .i64 m.op,.int .i64 m.d,.int .i64 m.e,.int .i64 m.a,.int .i64 m.b,.int .i64 m.c,.int .i32 m.imm,av] 46
abbrev boxes (w:World) (m n:Mach) (av bv:Value):World:=(w.alloc (box m av)).alloc (box n bv)
def rdependsB (m n:Mach):Bool:=
 meetB (changes m) (changes n++takes n)||meetB (changes n) (takes m)||(strictB m.op&&strictB n.op)&&!(loadB m.op&&loadB n.op)
set_option maxHeartbeats 4000000 in
set_option maxRecDepth 100000 in
theorem rdepends_any (m n:Mach) (av bv:Value) (w:World) (h:Ints w av m.args) (h2:Ints w bv n.args) (hf:Fine m) (hf2:Fine n) :
  Calls Try.prog 32 #[mv m av,mv n bv] w (TellsS (rdependsB m n) w):=by
 have hl1:=makes_len m
 have hl2:=spoils_len m
 have hl3:=makes_len n
 have hl4:=spoils_len n
 have hl5:=takes_len n hf2.2.2
 have hl6:=changes_len n
 have H:=Lib.hid h;clear h
 have H2:=Lib.hid h2;clear h2
 have HM:=Lib.hid (fun w h=>rmakes_any m av w h hf)
 have HS:=Lib.hid (fun w=>rspoils_any m av w)
 have HM2:=Lib.hid (fun w h=>rmakes_any n bv w h hf2)
 have HS2:=Lib.hid (fun w=>rspoils_any n bv w)
 have HTX:=Lib.hid (fun w h=>rtakes_any m av w h hf)
 have HTY:=Lib.hid (fun w h=>rtakes_any n bv w h hf2)
 clear hf hf2
 unfold mv at HM HS HM2 HS2 HTX HTY ⊢
 go_enter Try.func32,Try.ntmps32
 go_wp2
 refine wp_region_windows [false,true,false,false,true,false,false,false] [false,false,false,true,false,false,true,false] [false,false,false,false,false,false,false,true]
  rfl (by decide +kernel) (by decide +kernel) (by decide +kernel) rfl
  [IsRow (boxes w m n av bv) [],Is (mv m av),IsNums .i64 (makes m),IsRow (boxes w m n av bv) ([]++makes m),Is (mv m av),IsNums .i64 (spoils m),IsRow (boxes w m n av bv) ([]++makes m++spoils m),IsRow (boxes w m n av bv) ([]++makes m++spoils m)]
  ⟨IsRow.stable _ _,Is.stable _,IsNums.stable _ _,IsRow.stable _ _,Is.stable _,IsNums.stable _ _,IsRow.stable _ _,IsRow.stable _ _,trivial⟩ ⟨Is.fixed _,Is.fixed _,trivial⟩ (by simp) ⟨?_,?_,?_,?_,?_,?_,?_,?_,trivial⟩ ?_
 all_goals
  intro vs w1 hs hk
  have hc1:∀ i,w1.cell? ⟨w.heap.size,i,none⟩=_:=fun i=>hs.cell (p:=⟨w.heap.size,i,none⟩) (by simp;omega)
  have hc2:∀ i,w1.cell? ⟨w.heap.size+1,i,none⟩=_:=fun i=>hs.cell (p:=⟨w.heap.size+1,i,none⟩) (by simp)
  simp only[putAll,Act.put,KnowsD,KnowsFin,nthF,Is,List.setIfInBounds_toArray,List.set_cons_zero,List.set_cons_succ,Nat.reduceAdd]at hk ⊢
  try simp only[hk]
 ·go_wp2
  exact⟨_,rfl,own_empty rfl hs.size _ _,(Since.refl _).alloc _⟩
 ·go_wp2
  exact⟨_,rfl,rfl,Since.refl _⟩
 ·go_wp2_with fail
  refine (HM.out _ ((H.out.keep (((Since.refl _).alloc _).alloc _)).keep hs)).mono ?_
  rintro e w2 ⟨v,rfl,hv,hs2⟩
  go_wp2
  exact⟨_,rfl,hv,hs2⟩
 ·have K:=Lib.hid hk;clear hk
  go_wp2_with (at_builtin;refine wpList_append_nums (w0:=boxes w m n av bv) .i64 rfl _ _ 25 rfl 3 (.int .i64 0) 8 Try.underlying25 Try.info3 rfl (by decide) _ _ [] (makes m) rfl rfl K.out.1 K.out.2.1 (by simp;omega) hs ?_;intro v' w' hown hs2)
  exact⟨_,rfl,hown,hs2⟩
 ·go_wp2
  exact⟨_,rfl,rfl,Since.refl _⟩
 ·go_wp2_with fail
  refine (HS.out _).mono ?_
  rintro e w2 ⟨v,rfl,hv,hs2⟩
  go_wp2
  exact⟨_,rfl,hv,hs2⟩
 ·have K:=Lib.hid hk;clear hk
  go_wp2_with (at_builtin;refine wpList_append_nums (w0:=boxes w m n av bv) .i64 rfl _ _ 25 rfl 3 (.int .i64 0) 8 Try.underlying25 Try.info3 rfl (by decide) _ _ ([]++makes m) (spoils m) rfl rfl K.out.1 K.out.2.1 (by simp;omega) hs ?_;intro v' w' hown hs2)
  exact⟨_,rfl,hown,hs2⟩
 ·go_wp2
  exact⟨_,rfl,hk.1,Since.refl _⟩
 ·have hx:Nums .i64 w1 (vs 7) (changes m):=nums_of_own (l:=changes m) hk.1
  clear hk
  obtain⟨a1,c1,e1⟩:=nums_lenI hx
  rw[e1]at hx ⊢
  have X:=Lib.hid hx;clear hx
  have C1:=Lib.hid hc1;clear hc1
  have C2:=Lib.hid hc2;clear hc2
  have S0:=Lib.hid hs;clear hs
  go_wp2
  refine wp_region_windows [false,true,false,false,true,false,false,false] [false,false,false,true,false,false,true,false] [false,false,false,false,false,false,false,true]
   rfl (by decide +kernel) (by decide +kernel) (by decide +kernel) rfl
   [IsRow w1 [],Is (mv n bv),IsNums .i64 (makes n),IsRow w1 ([]++makes n),Is (mv n bv),IsNums .i64 (spoils n),IsRow w1 ([]++makes n++spoils n),IsRow w1 ([]++makes n++spoils n)]
   ⟨IsRow.stable _ _,Is.stable _,IsNums.stable _ _,IsRow.stable _ _,Is.stable _,IsNums.stable _ _,IsRow.stable _ _,IsRow.stable _ _,trivial⟩ ⟨Is.fixed _,Is.fixed _,trivial⟩ (by simp) ⟨?_,?_,?_,?_,?_,?_,?_,?_,trivial⟩ ?_
  all_goals
   intro us w2 hs hk
   have hd1:∀ i,w2.cell? ⟨w.heap.size,i,none⟩=_:=fun i=>(hs.cell (p:=⟨w.heap.size,i,none⟩) (Nat.lt_of_lt_of_le (by simp;omega) S0.out.size)).trans (C1.out i)
   have hd2:∀ i,w2.cell? ⟨w.heap.size+1,i,none⟩=_:=fun i=>(hs.cell (p:=⟨w.heap.size+1,i,none⟩) (Nat.lt_of_lt_of_le (by simp) S0.out.size)).trans (C2.out i)
   simp only[putAll,Act.put,KnowsD,KnowsFin,nthF,Is,List.setIfInBounds_toArray,List.set_cons_zero,List.set_cons_succ,Nat.reduceAdd]at hk ⊢
   try simp only[hk]
  ·go_wp2
   exact⟨_,rfl,own_empty rfl hs.size _ _,(Since.refl _).alloc _⟩
  ·go_wp2
   exact⟨_,rfl,rfl,Since.refl _⟩
  ·go_wp2_with fail
   refine (HM2.out _ (((H2.out.keep (((Since.refl _).alloc _).alloc _)).keep S0.out).keep hs)).mono ?_
   rintro e w9 ⟨v,rfl,hv,hs9⟩
   go_wp2
   exact⟨_,rfl,hv,hs9⟩
  ·have K:=Lib.hid hk;clear hk
   go_wp2_with (at_builtin;refine wpList_append_nums (w0:=w1) .i64 rfl _ _ 25 rfl 3 (.int .i64 0) 8 Try.underlying25 Try.info3 rfl (by decide) _ _ [] (makes n) rfl rfl K.out.1 K.out.2.1 (by simp;omega) hs ?_;intro v' w' hown hs9)
   exact⟨_,rfl,hown,hs9⟩
  ·go_wp2
   exact⟨_,rfl,rfl,Since.refl _⟩
  ·go_wp2_with fail
   refine (HS2.out _).mono ?_
   rintro e w9 ⟨v,rfl,hv,hs9⟩
   go_wp2
   exact⟨_,rfl,hv,hs9⟩
  ·have K:=Lib.hid hk;clear hk
   go_wp2_with (at_builtin;refine wpList_append_nums (w0:=w1) .i64 rfl _ _ 25 rfl 3 (.int .i64 0) 8 Try.underlying25 Try.info3 rfl (by decide) _ _ ([]++makes n) (spoils n) rfl rfl K.out.1 K.out.2.1 (by simp;omega) hs ?_;intro v' w' hown hs9)
   exact⟨_,rfl,hown,hs9⟩
  ·go_wp2
   exact⟨_,rfl,hk.1,Since.refl _⟩
  ·have hy:Nums .i64 w2 (us 7) (changes n):=nums_of_own (l:=changes n) hk.1
   clear hk
   obtain⟨a2,c2,e2⟩:=nums_lenI hy
   rw[e2]at hy ⊢
   have Y:=Lib.hid hy;clear hy
   have D1:=Lib.hid hd1;clear hd1
   have D2:=Lib.hid hd2;clear hd2
   have S1:=Lib.hid hs;clear hs
   go_wp2
   refine wp_region_windows [true,false,true,false,true,false,false,true,true] [false,false,false,true,false,false,true,false,false] [false,false,false,false,false,false,false,false,true]
    rfl (by decide +kernel) (by decide +kernel) (by decide +kernel) rfl
    [Is (.slice a1 (changes m).length c1),IsRow w2 [],Is (.slice a2 (changes n).length c2),IsRow w2 ([]++changes n),Is (mv n bv),IsNums .i64 (takes n),IsRow w2 ([]++changes n++takes n),Is (.bool (meetB (changes m) (changes n++takes n))),Is (.bool (meetB (changes m) (changes n++takes n)))]
    ⟨Is.stable _,IsRow.stable _ _,Is.stable _,IsRow.stable _ _,Is.stable _,IsNums.stable _ _,IsRow.stable _ _,Is.stable _,Is.stable _,trivial⟩ ⟨Is.fixed _,Is.fixed _,Is.fixed _,Is.fixed _,Is.fixed _,trivial⟩ (by simp) ⟨?_,?_,?_,?_,?_,?_,?_,?_,?_,trivial⟩ ?_
   all_goals
    intro xs w3 hs hk
    have hf1:∀ i,w3.cell? ⟨w.heap.size,i,none⟩=_:=fun i=>(hs.cell (p:=⟨w.heap.size,i,none⟩) (Nat.lt_of_lt_of_le (by simp;omega) (Nat.le_trans S0.out.size S1.out.size))).trans (D1.out i)
    have hf2:∀ i,w3.cell? ⟨w.heap.size+1,i,none⟩=_:=fun i=>(hs.cell (p:=⟨w.heap.size+1,i,none⟩) (Nat.lt_of_lt_of_le (by simp) (Nat.le_trans S0.out.size S1.out.size))).trans (D2.out i)
    simp only[putAll,Act.put,KnowsD,KnowsFin,nthF,Is,List.setIfInBounds_toArray,List.set_cons_zero,List.set_cons_succ,Nat.reduceAdd]at hk ⊢
    try simp only[hk]
   ·go_wp2
    exact⟨_,rfl,rfl,Since.refl _⟩
   ·go_wp2
    exact⟨_,rfl,own_empty rfl hs.size _ _,(Since.refl _).alloc _⟩
   ·go_wp2
    exact⟨_,rfl,rfl,Since.refl _⟩
   ·have K:=Lib.hid hk;clear hk
    have HY:=Lib.hid (Y.out.keep hs)
    go_wp2_with (at_builtin;refine wpList_append_nums (w0:=w2) .i64 rfl _ _ 25 rfl 3 (.int .i64 0) 8 Try.underlying25 Try.info3 rfl (by decide) _ _ [] (changes n) rfl rfl K.out.1 HY.out (by simp;omega) hs ?_;intro v' w' hown hs9)
    exact⟨_,rfl,hown,hs9⟩
   ·go_wp2
    exact⟨_,rfl,rfl,Since.refl _⟩
   ·go_wp2_with fail
    refine (HTY.out _ ((((H2.out.keep (((Since.refl _).alloc _).alloc _)).keep S0.out).keep S1.out).keep hs)).mono ?_
    rintro e w9 ⟨v,rfl,hv,hs9⟩
    go_wp2
    exact⟨_,rfl,hv,hs9⟩
   ·have K:=Lib.hid hk;clear hk
    go_wp2_with (at_builtin;refine wpList_append_nums (w0:=w2) .i64 rfl _ _ 25 rfl 3 (.int .i64 0) 8 Try.underlying25 Try.info3 rfl (by decide) _ _ ([]++changes n) (takes n) rfl rfl K.out.1 K.out.2.1 (by simp;omega) hs ?_;intro v' w' hown hs9)
    exact⟨_,rfl,hown,hs9⟩
   ·have hz:Nums .i64 w3 (xs 6) (changes n++takes n):=nums_of_own (l:=changes n++takes n) hk.2.1
    have Z:=Lib.hid hz;clear hz
    clear hk
    go_wp2_with fail
    refine (meet_any _ _ _ _ _ ((X.out.keep S1.out).keep hs) Z.out).mono ?_
    rintro e w9 ⟨rfl,hs9⟩
    go_wp2
    exact⟨_,rfl,rfl,hs9⟩
   ·go_wp2
    exact⟨_,rfl,rfl,Since.refl _⟩
   ·have S2:=Lib.hid hs;clear hs
    have F1:=Lib.hid hf1
    have F2:=Lib.hid hf2;clear hf2
    go_wp2_with fail
    refine (HTX.out _ ((((H.out.keep (((Since.refl _).alloc _).alloc _)).keep S0.out).keep S1.out).keep S2.out)).mono ?_
    rintro e w4 ⟨v4,rfl,hv4,hs4⟩
    obtain⟨a4,c4,e4⟩:=nums_lenI hv4
    rw[e4]at hv4 ⊢
    have V4:=Lib.hid hv4;clear hv4
    clear hf1
    go_wp2_with fail
    refine (meet_any _ _ _ _ _ ((Y.out.keep S2.out).keep hs4) V4.out).mono ?_
    rintro e w5 ⟨rfl,hs5⟩
    have hs35:=hs4.trans hs5
    have hg1:∀ i,w5.cell? ⟨w.heap.size,i,none⟩=_:=fun i=>(hs35.cell (p:=⟨w.heap.size,i,none⟩) (Nat.lt_of_lt_of_le (by simp;omega) (Nat.le_trans S0.out.size (Nat.le_trans S1.out.size S2.out.size)))).trans (F1.out i)
    have hg2:∀ i,w5.cell? ⟨w.heap.size+1,i,none⟩=_:=fun i=>(hs35.cell (p:=⟨w.heap.size+1,i,none⟩) (Nat.lt_of_lt_of_le (by simp) (Nat.le_trans S0.out.size (Nat.le_trans S1.out.size S2.out.size)))).trans (F2.out i)
    have hend:Since w w5:=(((Since.trans (((Since.refl _).alloc _).alloc _) S0.out).trans S1.out).trans S2.out).trans hs35
    have HE:=Lib.hid hend;clear hend
    clear hs4 hs5 hs35
    have hpost:rdependsB m n=(meetB (changes m) (changes n++takes n)||meetB (changes n) (takes m)||(strictB m.op&&strictB n.op)&&!(loadB m.op&&loadB n.op)):=rfl
    have hw1:(strictB m.op=false)∨(strictB m.op=true∧strictB n.op=false)∨(strictB m.op=true∧strictB n.op=true):=by cases strictB m.op<;>cases strictB n.op<;>simp
    have hw2:(loadB m.op=false)∨(loadB m.op=true∧loadB n.op=false)∨(loadB m.op=true∧loadB n.op=true):=by cases loadB m.op<;>cases loadB n.op<;>simp
    obtain⟨p1,h1⟩:∃ p,meetB (changes m) (changes n++takes n)=p:=⟨_,rfl⟩
    obtain⟨p2,h2⟩:∃ p,meetB (changes n) (takes m)=p:=⟨_,rfl⟩
    rw[h1,h2]at hpost
    have HP:=Lib.hid hpost;clear hpost
    rw[h1,h2]
    clear h1 h2
    cases p1<;>cases p2<;>rcases hw1 with q1 | ⟨q1,q2⟩ | ⟨q1,q2⟩<;>rcases hw2 with r1 | ⟨r1,r2⟩ | ⟨r1,r2⟩
    all_goals
     go_wp2_with (first | (go_at_call 66;refine (effect_any _ _).mono ?_;rintro e w6 ⟨rfl,rfl⟩) | (go_at_call 67;refine (load17_any _ _).mono ?_;rintro e w6 ⟨rfl,rfl⟩))
     go_ret
     refine⟨?_,HE.out⟩
     rw[HP.out]
     simp[*]
theorem meetB_append (l a b:List Int):meetB l (a++b)=(meetB l a||meetB l b):=by
 unfold meetB
 induction l with
 | nil=>rfl
 | cons x r ih =>
  rw[List.any_cons,List.any_cons,List.any_cons,ih,List.any_append]
  generalize (a.any fun y=>x==y)=p
  generalize (b.any fun y=>x==y)=q
  generalize (r.any fun x=>a.any fun y=>x==y)=s
  generalize (r.any fun x=>b.any fun y=>x==y)=t
  cases p<;>cases q<;>cases s<;>cases t<;>rfl
theorem depends_eq (m n:Mach):dependsB m n=rdependsB m n:=by
 unfold dependsB rdependsB
 rw[meetB_append]
 generalize meetB (changes m) (changes n)=a
 generalize meetB (changes m) (takes n)=b
 generalize meetB (changes n) (takes m)=c
 generalize (strictB m.op&&strictB n.op)=d
 generalize (!(loadB m.op&&loadB n.op))=e
 cases a<;>cases b<;>cases c<;>cases d<;>cases e<;>rfl
structure MachAt (w:World) (b o:Nat) (m:Mach) (av:Value):Prop where
 c0:w.cell? ⟨b,o,none⟩=some (.int .i64 m.op)
 c1:w.cell? ⟨b,o+1,none⟩=some (.int .i64 m.d)
 c2:w.cell? ⟨b,o+2,none⟩=some (.int .i64 m.e)
 c3:w.cell? ⟨b,o+3,none⟩=some (.int .i64 m.a)
 c4:w.cell? ⟨b,o+4,none⟩=some (.int .i64 m.b)
 c5:w.cell? ⟨b,o+5,none⟩=some (.int .i64 m.c)
 c6:w.cell? ⟨b,o+6,none⟩=some (.int .i32 m.imm)
 c7:w.cell? ⟨b,o+7,none⟩=some av
 args:Ints w av m.args
 fine:Fine m
theorem MachAt.keep {w w':World} {b o:Nat} {m : Mach} {av:Value} (h:MachAt w b o m av) (hb:b<w.heap.size) (s:Since w w'):MachAt w' b o m av:=by
 obtain⟨h0,h1,h2,h3,h4,h5,h6,h7,h8,h9⟩:=h
 exact⟨by rw[s.cell hb];exact h0,by rw[s.cell hb];exact h1,by rw[s.cell hb];exact h2,by rw[s.cell hb];exact h3,by rw[s.cell hb];exact h4,by rw[s.cell hb];exact h5,by rw[s.cell hb];exact h6,by rw[s.cell hb];exact h7,h8.keep s,h9⟩
def Machs (w:World) (v:Value) (ms:List (Mach × Value)):Prop:=
 (∃ a,v=.slice a 0 0∧ms=[])∨∃ b off cap,v=.slice (some ⟨b,off,none⟩) ms.length cap∧b<w.heap.size∧∀ (j:Nat) (x:Mach × Value),ms[j]? = some x→MachAt w b (off+j*8) x.1 x.2
theorem Machs.keep {w w':World} {v : Value} {ms:List (Mach × Value)} (h:Machs w v ms) (s:Since w w'):Machs w' v ms:=by
 rcases h with h|⟨b,off,cap,h1,h2,h3⟩
 ·exact .inl h
 ·exact .inr ⟨b,off,cap,h1,Nat.lt_of_lt_of_le h2 s.size,fun j x hj=>(h3 j x hj).keep h2 s⟩
def msk (d:Nat→Nat→Bool) (i:Nat):Nat→Int
 | 0=>0
 | j+1=>if d j i then bits .or .i64 (msk d i j) (2 ^ j) else msk d i j
def st (d:Nat→Nat→Bool) (n i j:Nat):List Int:=(List.range n).map fun t=>if t<i then msk d t t else if t=i then msk d i j else 0
def bhs (d:Nat→Nat→Bool) (n:Nat):List Int:=(List.range n).map fun t=>msk d t t
theorem st_len (d:Nat→Nat→Bool) (n i j:Nat):(st d n i j).length=n:=by simp[st]
theorem st_at (d:Nat→Nat→Bool) (n i j:Nat) (h:i<n):(st d n i j)[i]? = some (msk d i j):=by simp[st,h]
theorem st_start (d:Nat→Nat→Bool) (n:Nat):st d n 0 0=List.replicate n 0:=by
 apply List.ext_getElem?;intro t
 simp only[st,List.getElem?_map,List.getElem?_replicate]
 by_cases h:t<n<;>simp[h,msk]
theorem st_row (d:Nat→Nat→Bool) (n i:Nat):st d n i i=st d n (i+1) 0:=by
 apply List.ext_getElem?;intro t
 simp only[st,List.getElem?_map]
 by_cases h:t<n
 ·simp only[List.getElem?_range h,Option.map_some,Option.some.injEq]
  by_cases h1:t<i
  ·simp[h1,show t<i+1 from by omega]
  ·by_cases h2:t=i
   ·subst h2;simp
   ·simp[h1,h2,show ¬ t<i+1 from by omega,msk]
 ·simp[h]
theorem st_end (d:Nat→Nat→Bool) (n:Nat):st d n n 0=bhs d n:=by
 apply List.ext_getElem?;intro t
 simp only[st,bhs,List.getElem?_map]
 by_cases h:t<n<;>simp[h]
theorem st_no (d:Nat→Nat→Bool) (n i j:Nat) (h:d j i=false):st d n i (j+1)=st d n i j:=by
 simp[st,msk,h]
theorem st_yes (d:Nat→Nat→Bool) (n i j:Nat) (h:d j i=true):st d n i (j+1)=(st d n i j).set i (bits .or .i64 (msk d i j) (2 ^ j)):=by
 apply List.ext_getElem?;intro t
 simp only[st,List.getElem?_map,List.getElem?_set,List.length_map,List.length_range]
 by_cases h1:t<n
 ·simp only[List.getElem?_range h1,Option.map_some]
  by_cases h2:i=t
  ·subst h2;simp[h1,msk,h]
  ·simp[h2,Ne.symm h2]
 ·by_cases h2:i=t
  ·subst h2;simp[h1]
  ·simp[h2,h1]
def RowAt (w:World) (b:Nat) (R:List Int):Prop:=w.heap[b]? = some (.cells (R.map (Value.int .i64)).toArray 3 (0,0))
theorem RowAt.cell {w : World} {b : Nat} {R : List Int} (h:RowAt w b R) {i : Nat} {x : Int} (hx:R[i]? = some x):w.cell? ⟨b,i,none⟩=some (.int .i64 x):=by
 simp[World.cell?,show w.heap[b]? = _ from h,hx]
theorem RowAt.nums {w : World} {b : Nat} {R : List Int} (h:RowAt w b R) (hm:R.length≤maxLen):Nums .i64 w (.slice (some ⟨b,0,none⟩) R.length R.length) R:=
 nums_new R 3 R.length (Nat.le_refl _) hm h fun j n hj=>by simp[hj]
theorem RowAt.set {w : World} {b : Nat} {R : List Int} (h:RowAt w b R) (i:Nat) (x:Int):RowAt (w.setCell ⟨b,i,none⟩ (.int .i64 x)) b (R.set i x):=by
 unfold RowAt at h ⊢
 simp[World.setCell,Array.getElem?_modify,h,List.map_set]
theorem set_since {w0 w:World} (h:Since w0 w) {a : Addr} (ha:w0.heap.size≤a.block) (v:Value):Since w0 (w.setCell a v):=Below.setCell h ha v
structure InLoop (w:World) (v:Value) (d:Nat→Nat→Bool) (n b bl bb i j:Nat) (wr:World):Prop where
 since:Since w wr
 box:wr.cell? ⟨bl,0,none⟩=some v
 beh:wr.cell? ⟨bb,0,none⟩=some (.slice (some ⟨b,0,none⟩) n n)
 row:RowAt wr b (st d n i j)
 lt:w.heap.size≤b∧bl<wr.heap.size∧bb<wr.heap.size∧bl≠b∧bb≠b
theorem InLoop.keep {w : World} {v : Value} {d : Nat→Nat→Bool} {n b bl bb i j:Nat} {wr w2:World} (h:InLoop w v d n b bl bb i j wr) (s:Since wr w2):InLoop w v d n b bl bb i j w2:=by
 obtain⟨h1,h2,h3,h4,l1,l2,l3,l4,l5⟩:=h
 have hb:b<wr.heap.size:=(Array.getElem?_eq_some_iff.1 h4).1
 exact⟨h1.trans s,by rw[s.cell (p:=⟨bl,0,none⟩) l2];exact h2,by rw[s.cell (p:=⟨bb,0,none⟩) l3];exact h3,(Below.block s b hb).trans h4,l1,Nat.lt_of_lt_of_le l2 s.size,Nat.lt_of_lt_of_le l3 s.size,l4,l5⟩
theorem InLoop.store {w : World} {v : Value} {d : Nat→Nat→Bool} {n b bl bb i j:Nat} {wr:World} (h:InLoop w v d n b bl bb i j wr) (hd:d j i=true) :
  InLoop w v d n b bl bb i (j+1) (wr.setCell ⟨b,i,none⟩ (.int .i64 (bits .or .i64 (msk d i j) (2 ^ j)))):=by
 obtain⟨h1,h2,h3,h4,l1,l2,l3,l4,l5⟩:=h
 refine⟨set_since h1 l1 _,?_,?_,?_,l1,?_,?_,l4,l5⟩
 ·exact (World.cell?_of_block (Below.heap_setCell _ _ _ _ l4)).trans h2
 ·exact (World.cell?_of_block (Below.heap_setCell _ _ _ _ l5)).trans h3
 ·rw[st_yes d n i j hd];exact h4.set _ _
 ·simpa [World.setCell]using l2
 ·simpa [World.setCell]using l3
theorem InLoop.no {w : World} {v : Value} {d : Nat→Nat→Bool} {n b bl bb i j:Nat} {wr:World} (h:InLoop w v d n b bl bb i j wr) (hd:d j i=false):InLoop w v d n b bl bb i (j+1) wr:=by
 obtain⟨h1,h2,h3,h4,l⟩:=h
 exact⟨h1,h2,h3,by rw[st_no d n i j hd];exact h4,l⟩
theorem InLoop.row_done {w : World} {v : Value} {d : Nat→Nat→Bool} {n b bl bb i:Nat} {wr:World} (h:InLoop w v d n b bl bb i i wr):InLoop w v d n b bl bb (i+1) 0 wr:=by
 obtain⟨h1,h2,h3,h4,l⟩:=h
 exact⟨h1,h2,h3,by rw[←st_row];exact h4,l⟩
def depAt (ms:List (Mach × Value)) (j i:Nat):Bool:=match ms[j]?,ms[i]? with
 | some x,some y=>dependsB x.1 y.1
 | _,_=>false
theorem made_facts {w w1:World} {v : Value} {n : Nat} (d:Nat→Nat→Bool) (t:TypeId)
  (hown:w1.ownsRow w.heap.size 3 1 (.slice (some ⟨(w.alloc (.cells #[v] t)).heap.size,0,none⟩) n n) n (madeCells (Value.int .i64 0).cells (n*1)).toList)
  (hgrow:(w.alloc (.cells #[v] t)).grownBy w1 none) :
  Since w w1∧RowAt w1 (w.heap.size+1) (st d n 0 0)∧w.heap.size+1<w1.heap.size∧w1.cell? ⟨w.heap.size,0,none⟩=some v∧∀ o,(w1.alloc o).cell? ⟨w.heap.size,0,none⟩=some v:=by
 rw[show (w.alloc (.cells #[v] t)).heap.size=w.heap.size+1 from by simp]at hown
 have hs:Since w w1:=Below.grown ((Since.refl w).alloc (.cells #[v] t)) hgrow (by simp) (fun _ h=>by cases h)
 have hrow:RowAt w1 (w.heap.size+1) (st d n 0 0):=by
  obtain⟨_,⟨hv,_⟩|⟨g,cap,cur,hv,_,hg,_,_,hsz,htake⟩⟩:=hown
  ·cases hv
  ·injection hv with hv hv2 hv3
   injection hv with hv
   injection hv with hv
   subst hv;subst hv3
   unfold RowAt
   rw[hg,st_start]
   have h1:cur.toList=List.replicate n (Value.int .i64 0):=by
    rw[List.take_of_length_le (by simp[hsz])]at htake
    rw[htake]
    show (madeCells #[Value.int .i64 0] (n*1)).toList=_
    rw[toList_madeCells_one,Nat.mul_one]
   have h2:cur=(List.replicate n (Value.int .i64 0)).toArray:=by rw[←h1]
   rw[h2];simp
 have hlt:w.heap.size+1<w1.heap.size:=(Array.getElem?_eq_some_iff.1 hrow).1
 have hb:w1.heap[w.heap.size]? = some (.cells #[v] t):=by
  rw[hgrow.block w.heap.size (by simp) (by simp)]
  exact heap_last w _
 refine⟨hs,hrow,hlt,by simp[World.cell?,hb],fun o=>?_⟩
 have:(w1.alloc o).heap[w.heap.size]? = some (.cells #[v] t):=by
  rw[←hb];exact Below.block ((Since.refl w1).alloc o) _ (by omega)
 simp[World.cell?,this]
theorem Since.but {w0 a b:World} {mb:Nat} (h:Since w0 a) (hm:w0.heap.size≤mb) (k:But mb a b):Since w0 b:=
 ⟨k.os.trans h.os,k.tape.trans h.tape,k.output.trans h.output,by rw[k.size];exact h.size,fun i hi=>(k.block i (by omega)).trans (h.block i hi)⟩
def grownW (wr:World) (M:Int) (bl bb:Nat):World:=
 ((wr.alloc (.map #[{ key:=.int .i64 M,val:=.int .i64 1,born:=0 }] 1)).alloc (.cells #[.map (some wr.heap.size)] 112)).alloc
  (.cells #[.func (.func 71) #[] #[.pointer (some ⟨wr.heap.size+1,0,none⟩),.pointer (some ⟨bl,0,none⟩),.pointer (some ⟨bb,0,none⟩),.pointer (some ⟨wr.heap.size+1+1,0,none⟩)]] 113)
theorem grownW_since (wr:World) (M:Int) (bl bb:Nat):Since wr (grownW wr M bl bb):=(((Since.refl wr).alloc _).alloc _).alloc _
theorem grown_map (wr:World) (M:Int) (bl bb:Nat):(grownW wr M bl bb).heap[wr.heap.size]? = some (.map #[{ key:=.int .i64 M,val:=.int .i64 1,born:=0 }] 1):=by
 unfold grownW
 rw[Below.heap_alloc _ _ _ (by simp;omega),Below.heap_alloc _ _ _ (by simp),heap_last]
theorem grown_box (wr:World) (M:Int) (bl bb:Nat):(grownW wr M bl bb).heap[wr.heap.size+1]? = some (.cells #[.map (some wr.heap.size)] 112 (0,0)):=by
 unfold grownW
 rw[Below.heap_alloc _ _ _ (by simp)]
 have:=heap_last (wr.alloc (.map #[{ key:=.int .i64 M,val:=.int .i64 1,born:=0 }] 1)) (.cells #[.map (some wr.heap.size)] 112)
 simpa using this
theorem grown_fn (wr:World) (M:Int) (bl bb:Nat):(grownW wr M bl bb).cell? ⟨wr.heap.size+1+1,0,none⟩=some (.func (.func 71) #[] #[.pointer (some ⟨wr.heap.size+1,0,none⟩),.pointer (some ⟨bl,0,none⟩),.pointer (some ⟨bb,0,none⟩),.pointer (some ⟨wr.heap.size+1+1,0,none⟩)]):=by
 have:=heap_last ((wr.alloc (.map #[{ key:=.int .i64 M,val:=.int .i64 1,born:=0 }] 1)).alloc (.cells #[.map (some wr.heap.size)] 112)) (.cells #[.func (.func 71) #[] #[.pointer (some ⟨wr.heap.size+1,0,none⟩),.pointer (some ⟨bl,0,none⟩),.pointer (some ⟨bb,0,none⟩),.pointer (some ⟨wr.heap.size+1+1,0,none⟩)]] 113)
 unfold grownW
 have e:((wr.alloc (.map #[{ key:=.int .i64 M,val:=.int .i64 1,born:=0 }] 1)).alloc (.cells #[.map (some wr.heap.size)] 112)).heap.size=wr.heap.size+1+1:=by simp
 rw[e]at this
 unfold World.cell?;rw[this];rfl
theorem bhs_len (d:Nat→Nat→Bool) (n:Nat):(bhs d n).length=n:=by simp[bhs]
def NumS (x:Int) (w:World) (e:Ending) (w':World):Prop:=e=.returned (.int .i64 x)∧Since w w'
def ordersI (d:Nat→Nat→Bool) (n:Nat):Int:=cnt (bhs d n) n 0
theorem count_start {w wr:World} {a : Option Addr} {cap:Nat} {d : Nat→Nat→Bool} {n bb:Nat} (hn:n≤12) (h:InLoop w (.slice a n cap) d n (w.heap.size+1) w.heap.size bb n 0 wr) :
  Calls Try.prog 71 #[.int .i64 0,.pointer (some ⟨wr.heap.size+1,0,none⟩),.pointer (some ⟨w.heap.size,0,none⟩),.pointer (some ⟨bb,0,none⟩),.pointer (some ⟨wr.heap.size+1+1,0,none⟩)]
   (grownW wr (2 ^ n-1) w.heap.size bb) (NumS (ordersI d n) w):=by
 obtain⟨h1,h2,h3,h4,l1,l2,l3,l4,l5⟩:=h
 have hS:=grownW_since wr (2 ^ n-1) w.heap.size bb
 have hlen:=bhs_len d n
 have hM:((2:Int) ^ n-1)=((2 ^ n-1:Nat):Int):=by
  have:1≤2 ^ n:=Nat.pow_pos (by decide)
  rw[Int.natCast_sub this];push_cast;rfl
 have hb:w.heap.size+1<wr.heap.size:=(Array.getElem?_eq_some_iff.1 h4).1
 have hready:Ready (bhs d n) wr.heap.size (wr.heap.size+1) w.heap.size bb (wr.heap.size+1+1) (grownW wr (2 ^ n-1) w.heap.size bb):=by
  refine⟨?_,⟨a,cap,?_⟩,⟨.slice (some ⟨w.heap.size+1,0,none⟩) n n,?_,?_,?_⟩,grown_fn _ _ _ _,by omega,by omega,by omega,by omega⟩
  ·unfold World.cell?;rw[grown_box];rfl
  ·rw[hS.cell (p:=⟨w.heap.size,0,none⟩) l2,hlen];exact h2
  ·rw[hS.cell (p:=⟨bb,0,none⟩) l3];exact h3
  ·have:=RowAt.nums h4 (by rw[st_len];unfold maxLen;omega)
   rw[st_len,st_end]at this
   exact Nums.keep this hS
  ·intro q hq
   simp[Value.ownBlock]at hq
   omega
 have hmemo:Memo (cnt (bhs d n) (bhs d n).length) (grownW wr (2 ^ n-1) w.heap.size bb) wr.heap.size:=by
  refine⟨_,_,grown_map _ _ _ _,fun e he=>?_⟩
  simp only[List.mem_singleton]at he
  subst he
  refine⟨2 ^ n-1,by rw[hM],?_⟩
  rw[hlen,cnt_full]
 have hkey:HasKey (grownW wr (2 ^ n-1) w.heap.size bb) wr.heap.size (2 ^ (bhs d n).length-1):=by
  refine⟨_,_,grown_map _ _ _ _,_,List.mem_singleton.2 rfl,?_⟩
  rw[hlen];dsimp only;rw[hM]
 have:=count_any (bhs d n) (by omega) wr.heap.size (wr.heap.size+1) w.heap.size bb (wr.heap.size+1+1) _ 0 _ (Nat.le_refl _) (by exact Nat.pow_pos (by decide)) hready hmemo hkey
 refine Calls.mono this fun e w' hp=>?_
 obtain⟨he,hbut,_,_⟩:=hp
 refine⟨?_,Since.but (h1.trans hS) (by omega) hbut⟩
 rw[he,hlen];rfl
attribute [local simp] fresh_nil fresh_cons
set_option maxHeartbeats 2000000 in
set_option maxRecDepth 100000 in
theorem orders_any (v:Value) (ms:List (Mach × Value)) (w:World) (h:Machs w v ms) (hn:ms.length≤12) :
  Calls Try.prog 37 #[v] w (NumS (ordersI (depAt ms) ms.length) w):=by
 have hshape:∃ a cap,v=.slice a ms.length cap:=by
  rcases h with ⟨_,h1,h2⟩|⟨b,off,cap,h1,_⟩
  ·subst h2;exact⟨_,_,h1⟩
  ·exact⟨_,_,h1⟩
 obtain⟨a,cap,rfl⟩:=hshape
 have H:=Lib.hid h;clear h
 generalize hN:ms.length=n at *
 have HN:=Lib.hid hN;clear hN
 generalize hX:ordersI (depAt ms) n=X
 have HX:=Lib.hid hX;clear hX
 obtain⟨ti,hi,hz0,hz1,hz2⟩:=info_parts (P:=Try.prog) (e:=3) (z:=.int .i64 0) (size:=1) (bytes:=8) (by kernel_rfl)
 go_enter Try.func37,Try.ntmps37
 go_wp2_with (at_make;refine wpList_make_full _ rfl (.tmp 12) (.tmp 12) 25 rfl w.heap.size 3 ti (.int .i64 0) 1 Try.underlying25 hi hz0 hz1 .i64 .i64 _ _ n rfl rfl rfl rfl (by rw[hz2];omega) (by unfold maxLen;omega) (by simp) ?_;intro w1 hown hgrow;obtain⟨hs1,hrow,hlt1,hbox,hboxo⟩:=made_facts (depAt ms) _ hown hgrow;clear hown hgrow;have HROW:=Lib.hid hrow;have HS1:=Lib.hid hs1;clear hrow hs1)
 go_loopw [16] (fun i wr=>∃ k:Nat,k≤n∧i=.int .i64 k∧InLoop w (.slice a n cap) (depAt ms) n (w.heap.size+1) w.heap.size w1.heap.size k 0 wr) (fun i _=>n-(intOf i).toNat)
 case atStart =>
  refine⟨0,Nat.zero_le _,rfl,HS1.out.alloc _,hboxo _,?_,?_,by omega,by simp;omega,by simp,by omega,by omega⟩
  ·unfold World.cell?;rw[heap_last];rfl
  ·exact (Below.block ((Since.refl w1).alloc _) _ hlt1).trans HROW.out
 case round =>
  obtain⟨i,hib,rfl,hr⟩:=hrel
  have HR:=Lib.hid hr;clear hr
  have hbl:=HR.out.box
  by_cases hil:i<n
  ·go_wp2
   go_loopw [20] (fun j wr=>∃ k:Nat,k≤i∧j=.int .i64 k∧InLoop w (.slice a n cap) (depAt ms) n (w.heap.size+1) w.heap.size w1.heap.size i k wr) (fun j _=>i-(intOf j).toNat)
   case atStart=>exact⟨0,Nat.zero_le _,rfl,HR.out⟩
   case round =>
    obtain⟨j,hjb,rfl,hr⟩:=hrel
    have HR2:=Lib.hid hr;clear hr
    by_cases hji:j<i
    ·obtain⟨B,off,rfl,hB,hcells⟩:∃ B off,a=some ⟨B,off,none⟩∧B<w.heap.size∧∀ (j:Nat) (x:Mach × Value),ms[j]? = some x→MachAt w B (off+j*8) x.1 x.2:=by
      rcases H.out with ⟨_,h1,h2⟩|⟨B,off,cap2,h1,h2,h3⟩
      ·have:=HN.out;rw[h2]at this;simp at this;omega
      ·injection h1 with h1 _ _;exact⟨B,off,h1,h2,h3⟩
     obtain⟨⟨mi,ai⟩,hmi⟩:∃ x,ms[i]? = some x:=⟨_,List.getElem?_eq_getElem (by have:=HN.out;omega)⟩
     obtain⟨⟨mj,aj⟩,hmj⟩:∃ x,ms[j]? = some x:=⟨_,List.getElem?_eq_getElem (by have:=HN.out;omega)⟩
     have hd:depAt ms j i=dependsB mj mi:=by simp[depAt,hmi,hmj]
     have HMI:=Lib.hid ((hcells i _ hmi).keep hB HR2.out.since)
     have HMJ:=Lib.hid ((hcells j _ hmj).keep hB HR2.out.since)
     have HBS:=Lib.hid (show B<wr.heap.size from Nat.lt_of_lt_of_le hB HR2.out.since.size)
     have HD:=Lib.hid hd
     clear hcells hmi hmj hd hB hbl hbox
     have hbx:=HR2.out.box
     have HBX:=Lib.hid (show w.heap.size<wr.heap.size from by
      have:=(Array.getElem?_eq_some_iff.1 (show wr.heap[w.heap.size+1]? = _ from HR2.out.row)).1;omega)
     go_wp2
     refine wp_region_list_facts rfl (by decide +kernel) (by decide +kernel)
      [Is (.slice (some ⟨B,off,none⟩) n cap),Is (.int .i64 j),Is (.pointer (some ⟨B,off+j*8,none⟩)),Is (mv mj aj),Is (.slice (some ⟨B,off,none⟩) n cap),Is (.int .i64 i),Is (.pointer (some ⟨B,off+i*8,none⟩)),Is (mv mi ai),Is (.bool (dependsB mj mi))]
      ⟨Is.stable _,Is.stable _,Is.stable _,Is.stable _,Is.stable _,Is.stable _,Is.stable _,Is.stable _,Is.stable _,trivial⟩ ⟨?_,?_,?_,?_,?_,?_,?_,?_,?_,trivial⟩ ?_
     all_goals
      intro vs w2 hs hk
      have hbx2:w2.cell? ⟨w.heap.size,0,none⟩=_:=(hs.cell (p:=⟨w.heap.size,0,none⟩) HBX.out).trans hbx
      have HMI2:=Lib.hid (HMI.out.keep HBS.out hs)
      have HMJ2:=Lib.hid (HMJ.out.keep HBS.out hs)
      simp only[putAll,Act.put,Knows,KnowsAll,nthF,Is,List.setIfInBounds_toArray,List.set_cons_zero,List.set_cons_succ,Nat.reduceAdd,List.length_cons,List.length_nil]at hk ⊢
      try simp only[hk]
      clear hbx
     ·go_wp2
      exact⟨_,rfl,rfl,Since.refl _⟩
     ·go_wp2
      exact⟨_,rfl,rfl,Since.refl _⟩
     ·go_wp2
      exact⟨_,rfl,rfl,Since.refl _⟩
     ·obtain⟨c0,c1,c2,c3,c4,c5,c6,c7,_,_⟩:=HMJ2.out
      go_wp2
      exact⟨_,rfl,rfl,Since.refl _⟩
     ·go_wp2
      exact⟨_,rfl,rfl,Since.refl _⟩
     ·go_wp2
      exact⟨_,rfl,rfl,Since.refl _⟩
     ·go_wp2
      exact⟨_,rfl,rfl,Since.refl _⟩
     ·obtain⟨c0,c1,c2,c3,c4,c5,c6,c7,_,_⟩:=HMI2.out
      go_wp2
      exact⟨_,rfl,rfl,Since.refl _⟩
     ·have hcall:=depends_any mj mi aj ai w2 HMJ2.out.args HMI2.out.args HMJ2.out.fine HMI2.out.fine
      have HC:=Lib.hid hcall;clear hcall
      go_wp2_with fail
      refine HC.out.mono ?_
      rintro e w3 ⟨rfl,hs3⟩
      go_wp2
      exact⟨_,rfl,rfl,hs3⟩
     ·have HS2:=Lib.hid hs;clear hs
      have HR3:=Lib.hid (HR2.out.keep HS2.out)
      cases hdep:dependsB mj mi with
      | false =>
       go_wp2
       go_roundw
       case rel=>exact⟨j+1,by omega,by go_num,HR3.out.no (HD.out.trans hdep)⟩
       case measure=>simp[intOf];omega
      | true =>
       have hb2:=HR3.out.beh
       have hrc:=HR3.out.row.cell (st_at (depAt ms) n i j hil)
       have HSTORE:=Lib.hid (HR3.out.store (HD.out.trans hdep))
       have hfz:w2.frozen? ⟨w.heap.size+1,i,none⟩=false:=by
        have:=HR3.out.row
        unfold RowAt at this
        simp[World.frozen?,this]
       have hp1:(0:Int)≤2 ^ j:=Int.le_of_lt (Int.pow_pos (by decide))
       have hp2:(2:Int) ^ j≤8192:=by
        have:(2:Nat) ^ j≤2 ^ 13:=Nat.pow_le_pow_right (by decide) (by omega)
        have e:(2:Int) ^ j=((2 ^ j:Nat):Int):=by push_cast;rfl
        omega
       generalize hmv:msk (depAt ms) i j=mval at *
       clear hmv
       have HDEP:=Lib.hid hdep;clear hdep
       go_wp2
       go_region
       go_wp2
       go_roundw
       case rel =>
        exact⟨j+1,by omega,by go_num,HSTORE.out.keep (Since.refl _).drew⟩
       case measure=>simp[intOf];omega
    ·obtain rfl:j=i:=by omega
     go_wp2
     go_roundw
     case rel=>exact⟨j+1,by omega,by go_num,HR2.out.row_done⟩
     case measure=>simp[intOf];omega
  ·obtain rfl:i=n:=by omega
   have hmm:=@run_makeMap Try.prog
   have hup:=@run_mapUpdate_new Try.prog _ _ _ Try.underlying112 Try.underlying3
   have hp1:(0:Int)≤2 ^ i:=Int.le_of_lt (Int.pow_pos (by decide))
   have hp2:(2:Int) ^ i≤8192:=by
    have:(2:Nat) ^ i≤2 ^ 13:=Nat.pow_le_pow_right (by decide) (by omega)
    have e:(2:Int) ^ i=((2 ^ i:Nat):Int):=by push_cast;rfl
    omega
   have hlt0:w.heap.size<wr.heap.size:=HR.out.lt.2.1
   have hblo:∀ o,(wr.alloc o).cell? ⟨w.heap.size,0,none⟩=some (.slice a i cap):=fun o=>(((Since.refl wr).alloc o).cell (p:=⟨w.heap.size,0,none⟩) hlt0).trans hbl
   clear hlt0
   have hcall:=count_start hn HR.out
   have HC:=Lib.hid hcall;clear hcall
   go_wp2_with fail
   refine HC.out.mono ?_
   rw[HX.out]
   rintro e w9 ⟨rfl,hs9⟩
   have HS9:=Lib.hid hs9;clear hs9
   go_wp2
   go_ret
   exact⟨rfl,HS9.out⟩
def nilv:Value:=.slice none 0 0
def aM0:Mach:=⟨3,1,0,0,0,0,0,[]⟩
def aM1:Mach:=⟨3,2,0,0,0,0,0,[]⟩
def aM2:Mach:=⟨5,3,0,1,2,0,0,[]⟩
def aMA:Mach:=⟨24,1,0,3,0,0,0,[]⟩
def aMB:Mach:=⟨24,2,0,4,0,0,0,[]⟩
def aMS:Mach:=⟨26,0,0,5,6,0,0,[]⟩
theorem fine_none {m : Mach} (h:m.args=[]) (hi : -2147483648≤m.imm∧m.imm≤2147483647):Fine m:=by
 exact⟨hi.1,hi.2,by rw[h];decide⟩
theorem machs_awake (w:World):Machs (w.alloc (.cells #[.int .i64 3,.int .i64 1,.int .i64 0,.int .i64 0,.int .i64 0,.int .i64 0,.int .i32 0,.slice none 0 0,.int .i64 3,.int .i64 2,.int .i64 0,.int .i64 0,.int .i64 0,.int .i64 0,.int .i32 0,.slice none 0 0,.int .i64 5,.int .i64 3,.int .i64 0,.int .i64 1,.int .i64 2,.int .i64 0,.int .i32 0,.slice none 0 0] 46)) (.slice (some ⟨w.heap.size,0,none⟩) 3 3) [(aM0,nilv),(aM1,nilv),(aM2,nilv)]:=by
 refine .inr ⟨w.heap.size,0,3,rfl,by simp,?_⟩
 intro j x hj
 have hb:=heap_last w (.cells #[.int .i64 3,.int .i64 1,.int .i64 0,.int .i64 0,.int .i64 0,.int .i64 0,.int .i32 0,.slice none 0 0,.int .i64 3,.int .i64 2,.int .i64 0,.int .i64 0,.int .i64 0,.int .i64 0,.int .i32 0,.slice none 0 0,.int .i64 5,.int .i64 3,.int .i64 0,.int .i64 1,.int .i64 2,.int .i64 0,.int .i32 0,.slice none 0 0] 46)
 match j,hj with
 | 0,hj=>cases hj;constructor<;>first | exact .nil _ _ | exact fine_none rfl (by decide) | (unfold World.cell?;rw[hb];rfl)
 | 1,hj=>cases hj;constructor<;>first | exact .nil _ _ | exact fine_none rfl (by decide) | (unfold World.cell?;rw[hb];rfl)
 | 2,hj=>cases hj;constructor<;>first | exact .nil _ _ | exact fine_none rfl (by decide) | (unfold World.cell?;rw[hb];rfl)
 | j+3,hj=>simp at hj
theorem orders_awake:ordersI (depAt [(aM0,nilv),(aM1,nilv),(aM2,nilv)]) 3=2:=by decide +kernel
set_option maxHeartbeats 4000000 in
set_option maxRecDepth 100000 in
theorem awake_any (w:World):Calls Try.prog 27 #[] w (TellsS true w):=by
 have D1:=fun w1=>depends_any aMS aMA nilv nilv w1 (.nil _ _) (.nil _ _) (fine_none rfl (by decide)) (fine_none rfl (by decide))
 have D2:=fun w1=>depends_any aMA aMB nilv nilv w1 (.nil _ _) (.nil _ _) (fine_none rfl (by decide)) (fine_none rfl (by decide))
 have D3:=fun w1=>depends_any aM0 aM2 nilv nilv w1 (.nil _ _) (.nil _ _) (fine_none rfl (by decide)) (fine_none rfl (by decide))
 have D4:=fun w1=>depends_any aM0 aM1 nilv nilv w1 (.nil _ _) (.nil _ _) (fine_none rfl (by decide)) (fine_none rfl (by decide))
 rw[show dependsB aMS aMA=true from by decide +kernel]at D1
 rw[show dependsB aMA aMB=false from by decide +kernel]at D2
 rw[show dependsB aM0 aM2=true from by decide +kernel]at D3
 rw[show dependsB aM0 aM1=false from by decide +kernel]at D4
 simp only[mv,nilv,aM0,aM1,aM2,aMA,aMB,aMS]at D1 D2 D3 D4
 have HD1:=Lib.hid D1
 have HD2:=Lib.hid D2
 have HD3:=Lib.hid D3
 have HD4:=Lib.hid D4
 clear D1 D2 D3 D4
 go_enter Try.func27,Try.ntmps27
 go_wp2
 refine wp_region_list_facts rfl (by decide +kernel) (by decide +kernel)
  [Is (.slice (some ⟨w.heap.size,0,none⟩) 3 3),Is (.int .i64 2),Is (.bool true),Is (.bool true),Is (.agg #[.int .i64 26,.int .i64 0,.int .i64 0,.int .i64 5,.int .i64 6,.int .i64 0,.int .i32 0,.slice none 0 0]),Is (.agg #[.int .i64 24,.int .i64 1,.int .i64 0,.int .i64 3,.int .i64 0,.int .i64 0,.int .i32 0,.slice none 0 0]),Is (.bool true),Is (.bool true),Is (.bool true),Is (.agg #[.int .i64 24,.int .i64 1,.int .i64 0,.int .i64 3,.int .i64 0,.int .i64 0,.int .i32 0,.slice none 0 0]),Is (.agg #[.int .i64 24,.int .i64 2,.int .i64 0,.int .i64 4,.int .i64 0,.int .i64 0,.int .i32 0,.slice none 0 0]),Is (.bool false),Is (.bool true),Is (.bool true),Is (.bool true),Is (.slice (some ⟨w.heap.size,0,none⟩) 3 3),Is (.pointer (some ⟨w.heap.size,0,none⟩)),Is (.agg #[.int .i64 3,.int .i64 1,.int .i64 0,.int .i64 0,.int .i64 0,.int .i64 0,.int .i32 0,.slice none 0 0]),Is (.slice (some ⟨w.heap.size,0,none⟩) 3 3),Is (.pointer (some ⟨w.heap.size,16,none⟩)),Is (.agg #[.int .i64 5,.int .i64 3,.int .i64 0,.int .i64 1,.int .i64 2,.int .i64 0,.int .i32 0,.slice none 0 0]),Is (.bool true),Is (.bool true),Is (.bool true),Is (.slice (some ⟨w.heap.size,0,none⟩) 3 3),Is (.pointer (some ⟨w.heap.size,0,none⟩)),Is (.agg #[.int .i64 3,.int .i64 1,.int .i64 0,.int .i64 0,.int .i64 0,.int .i64 0,.int .i32 0,.slice none 0 0]),Is (.slice (some ⟨w.heap.size,0,none⟩) 3 3),Is (.pointer (some ⟨w.heap.size,8,none⟩)),Is (.agg #[.int .i64 3,.int .i64 2,.int .i64 0,.int .i64 0,.int .i64 0,.int .i64 0,.int .i32 0,.slice none 0 0]),Is (.bool false),Is (.bool true),Is (.bool true),Is (.bool true)]
  (by repeat (first | exact trivial | refine⟨Is.stable _,?_⟩)) ⟨?_,?_,?_,?_,?_,?_,?_,?_,?_,?_,?_,?_,?_,?_,?_,?_,?_,?_,?_,?_,?_,?_,?_,?_,?_,?_,?_,?_,?_,?_,?_,?_,?_,?_,trivial⟩ ?_
 all_goals
  intro vs w1 hs hk
  have hc0:∀ i,w1.cell? ⟨w.heap.size,i,none⟩=_:=fun i=>hs.cell (p:=⟨w.heap.size,i,none⟩) (by simp<;>omega)
  have hc1:∀ i,w1.cell? ⟨w.heap.size+1,i,none⟩=_:=fun i=>hs.cell (p:=⟨w.heap.size+1,i,none⟩) (by simp<;>omega)
  have hc2:∀ i,w1.cell? ⟨w.heap.size+1+1,i,none⟩=_:=fun i=>hs.cell (p:=⟨w.heap.size+1+1,i,none⟩) (by simp<;>omega)
  have HS:=Lib.hid hs
  clear hs
  simp only[putAll,Act.put,Knows,KnowsAll,nthF,Is,List.setIfInBounds_toArray,List.set_cons_zero,List.set_cons_succ,Nat.reduceAdd,List.length_cons,List.length_nil]at hk ⊢
  try simp only[hk]
  clear hk
 ·go_wp2
  exact⟨_,rfl,rfl,Since.refl _⟩
 ·have hcall:=orders_any (.slice (some ⟨w.heap.size,0,none⟩) 3 3) [(aM0,nilv),(aM1,nilv),(aM2,nilv)] w1 (Machs.keep (machs_awake w) (Since.trans (((Since.refl _).alloc _).alloc _) HS.out)) (by decide)
  rw[show ([(aM0,nilv),(aM1,nilv),(aM2,nilv)]:List (Mach × Value)).length=3 from rfl,orders_awake]at hcall
  have HC:=Lib.hid hcall;clear hcall
  go_wp2_with fail
  refine HC.out.mono ?_
  rintro e w2 ⟨rfl,hs2⟩
  go_wp2
  exact⟨_,rfl,rfl,hs2⟩
 ·go_wp2
  exact⟨_,rfl,rfl,Since.refl _⟩
 ·go_wp2
  exact⟨_,rfl,rfl,Since.refl _⟩
 ·go_wp2
  exact⟨_,rfl,rfl,Since.refl _⟩
 ·go_wp2
  exact⟨_,rfl,rfl,Since.refl _⟩
 ·go_wp2_with fail
  refine (HD1.out _).mono ?_
  rintro e w2 ⟨rfl,hs2⟩
  go_wp2
  exact⟨_,rfl,rfl,hs2⟩
 ·go_wp2
  exact⟨_,rfl,rfl,Since.refl _⟩
 ·go_wp2
  exact⟨_,rfl,rfl,Since.refl _⟩
 ·go_wp2
  exact⟨_,rfl,rfl,Since.refl _⟩
 ·go_wp2
  exact⟨_,rfl,rfl,Since.refl _⟩
 ·go_wp2_with fail
  refine (HD2.out _).mono ?_
  rintro e w2 ⟨rfl,hs2⟩
  go_wp2
  exact⟨_,rfl,rfl,hs2⟩
 ·go_wp2
  exact⟨_,rfl,rfl,Since.refl _⟩
 ·go_wp2
  exact⟨_,rfl,rfl,Since.refl _⟩
 ·go_wp2
  exact⟨_,rfl,rfl,Since.refl _⟩
 ·go_wp2
  exact⟨_,rfl,rfl,Since.refl _⟩
 ·go_wp2
  exact⟨_,rfl,rfl,Since.refl _⟩
 ·go_wp2
  exact⟨_,rfl,rfl,Since.refl _⟩
 ·go_wp2
  exact⟨_,rfl,rfl,Since.refl _⟩
 ·go_wp2
  exact⟨_,rfl,rfl,Since.refl _⟩
 ·go_wp2
  exact⟨_,rfl,rfl,Since.refl _⟩
 ·go_wp2_with fail
  refine (HD3.out _).mono ?_
  rintro e w2 ⟨rfl,hs2⟩
  go_wp2
  exact⟨_,rfl,rfl,hs2⟩
 ·go_wp2
  exact⟨_,rfl,rfl,Since.refl _⟩
 ·go_wp2
  exact⟨_,rfl,rfl,Since.refl _⟩
 ·go_wp2
  exact⟨_,rfl,rfl,Since.refl _⟩
 ·go_wp2
  exact⟨_,rfl,rfl,Since.refl _⟩
 ·go_wp2
  exact⟨_,rfl,rfl,Since.refl _⟩
 ·go_wp2
  exact⟨_,rfl,rfl,Since.refl _⟩
 ·go_wp2
  exact⟨_,rfl,rfl,Since.refl _⟩
 ·go_wp2
  exact⟨_,rfl,rfl,Since.refl _⟩
 ·go_wp2_with fail
  refine (HD4.out _).mono ?_
  rintro e w2 ⟨rfl,hs2⟩
  go_wp2
  exact⟨_,rfl,rfl,hs2⟩
 ·go_wp2
  exact⟨_,rfl,rfl,Since.refl _⟩
 ·go_wp2
  exact⟨_,rfl,rfl,Since.refl _⟩
 ·go_wp2
  exact⟨_,rfl,rfl,Since.refl _⟩
 ·go_wp2
  go_ret
  exact⟨rfl,Since.trans ((((Since.refl _).alloc _).alloc _).alloc _) HS.out⟩
end Go.Proofs.Ytkpbmbhejpmboaa
