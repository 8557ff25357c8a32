import Derived.Test.YtimpddecdodddaaGreatSt07
namespace Go.Proofs.YtimpddecdodddaaGreat
open Go.Proofs.Tryz Go.RowKit Go.Lib
set_option linter.unusedVariables false
set_option maxHeartbeats 4000000
set_option maxRecDepth 100000
theorem j5 {P:Prop} (h:P:=by
 rintro e w9 ⟨v,rfl,hv,ha⟩;go_wp2
 exact⟨_,rfl,hv,ha⟩):P:=h
def IsRow (W0:World) (l:List Int) (v:Value) (w:World):Prop:=w.ownsRow W0.heap.size 3 1 v l.length (l.map (Value.int .i64))
theorem IsRow.stable (W0:World) (l:List Int):ZH (IsRow W0 l):=by
 rintro v w w' ⟨h1,h2⟩ hs;refine⟨h1,h2.imp id ?_⟩;rintro⟨g,cap,cur,e1,e2,e3,e4⟩;exact⟨g,cap,cur,e1,e2,(hs.block g (Array.getElem?_eq_some_iff.1 e3).1).trans e3,e4⟩
abbrev box (m:Mach) (av:Value):Obj:=.cells #[.int .i64 m.op,.int .i64 m.d,.int .i64 m.e,.int .i64 m.a,.int .i64 m.b,.int .i64 m.c,.int .i32 m.imm,av] 36
abbrev boxes (w:World) (m n:Mach) (av bv:Value):World:=(w.alloc (box m av)).alloc (box n bv)
def Vl (m n:Mach):Bool:=
 meetB (changes m) (changes n++takes n)||meetB (changes n) (takes m)||(strictB m.op&&strictB n.op)&&!(loadB m.op&&loadB n.op)
theorem Jh (m n:Mach) (av bv:Value) (w:World) (h:Zd w av m.args) (h2:Zd w bv n.args) (hf:Xt m) (hd:Xt n) :
  Calls prog 82 #[mv m av,mv n bv] w (ZD (Vl m n) w):=by
 have hH:=Wj m;have hG:=WP m;have hF:=Wj n;have hE:=WP n;have hD:=Jc n hd.2.2;have hC:=Zbk n;have H:=hid h;clear h;have H2:=hid h2;clear h2;have HM:=hid (fun w h=>VS m av w h hf);have HS:=hid (fun w=>JW m av w);have hw:=hid (fun w h=>VS n bv w h hd);have hu:=hid (fun w=>JW n bv w);have ht:=hid (fun w h=>VR m av w h hf);have hr:=hid (fun w h=>VR n bv w h hd);clear hf hd;unfold mv at HM HS hw hu ht hr ⊢;go_enter func82,ntmps82
 go_wp2
 refine Xp [false,true,false,false,true,false,false,false] [false,false,false,true,false,false,true,false] [false,false,false,false,false,false,false,true]
  rfl zaC zaC zaC rfl
  [IsRow (boxes w m n av bv) [],Is (mv m av),Zo .i64 (makes m),IsRow (boxes w m n av bv) ([]++makes m),Is (mv m av),Zo .i64 (Yy m),IsRow (boxes w m n av bv) ([]++makes m++Yy m),IsRow (boxes w m n av bv) ([]++makes m++Yy m)]
  ⟨IsRow.stable _ _,Is.stable _,Zo.stable _ _,IsRow.stable _ _,Is.stable _,Zo.stable _ _,IsRow.stable _ _,IsRow.stable _ _,trivial⟩ ⟨Is.fixed _,Is.fixed _,trivial⟩ zaL ⟨?_,?_,?_,?_,?_,?_,?_,?_,trivial⟩ ?_
 all_goals
  intro vs w1 hs hk;have hq:∀ i,w1.cell? ⟨w.heap.size,i,none⟩=_:=fun i=>hs.cell (p:=⟨w.heap.size,i,none⟩) zaE
  have hp:∀ i,w1.cell? ⟨w.heap.size+1,i,none⟩=_:=fun i=>hs.cell (p:=⟨w.heap.size+1,i,none⟩) zaL
  revert hk;refine zs4 ?_;intro hk
 ·exact jZ
 ·exact kH
 ·go_wp2_with fail
  refine (HM.out _ ((H.out.keep (((Since.refl _).alloc _).alloc _)).keep hs)).mono ?_;rintro e w2 ⟨v,rfl,hv,hc⟩;go_wp2
  exact⟨_,rfl,hv,hc⟩
 ·have K:=hid hk;clear hk;go_wp2_with (at_builtin;refine ZQ (w0:=boxes w m n av bv) .i64 rfl _ _ 22 rfl 3 (.int .i64 0) 8 underlying22 Tryz.info3 rfl zaJ _ _ [] (makes m) rfl rfl K.out.1 K.out.2.1 zaE hs ?_;intro v' w' hb hc)
  exact⟨_,rfl,hb,hc⟩
 ·exact kH
 ·go_wp2_with fail
  refine (HS.out _).mono ?_;rintro e w2 ⟨v,rfl,hv,hc⟩;go_wp2
  exact⟨_,rfl,hv,hc⟩
 ·have K:=hid hk;clear hk;go_wp2_with (at_builtin;refine ZQ (w0:=boxes w m n av bv) .i64 rfl _ _ 22 rfl 3 (.int .i64 0) 8 underlying22 Tryz.info3 rfl zaJ _ _ ([]++makes m) (Yy m) rfl rfl K.out.1 K.out.2.1 zaE hs ?_;intro v' w' hb hc)
  exact⟨_,rfl,hb,hc⟩
 ·exact kG
 ·have hx:Zy .i64 w1 (vs 7) (changes m):=ZB (l:=changes m) hk.1;clear hk;obtain⟨a1,c1,e1⟩:=Zc hx;rw[e1]at hx ⊢;have X:=hid hx;clear hx;have C1:=hid hq;clear hq;have C2:=hid hp;clear hp;have S0:=hid hs;clear hs;go_wp2
  refine Xp [false,true,false,false,true,false,false,false] [false,false,false,true,false,false,true,false] [false,false,false,false,false,false,false,true]
   rfl zaC zaC zaC rfl
   [IsRow w1 [],Is (mv n bv),Zo .i64 (makes n),IsRow w1 ([]++makes n),Is (mv n bv),Zo .i64 (Yy n),IsRow w1 ([]++makes n++Yy n),IsRow w1 ([]++makes n++Yy n)]
   ⟨IsRow.stable _ _,Is.stable _,Zo.stable _ _,IsRow.stable _ _,Is.stable _,Zo.stable _ _,IsRow.stable _ _,IsRow.stable _ _,trivial⟩ ⟨Is.fixed _,Is.fixed _,trivial⟩ zaL ⟨?_,?_,?_,?_,?_,?_,?_,?_,trivial⟩ ?_
  all_goals
   intro us w2 hs hk;have ho:∀ i,w2.cell? ⟨w.heap.size,i,none⟩=_:=fun i=>(hs.cell (p:=⟨w.heap.size,i,none⟩) (Nat.lt_of_lt_of_le zaE S0.out.size)).trans (C1.out i)
   have hn:∀ i,w2.cell? ⟨w.heap.size+1,i,none⟩=_:=fun i=>(hs.cell (p:=⟨w.heap.size+1,i,none⟩) (Nat.lt_of_lt_of_le zaL S0.out.size)).trans (C2.out i)
   revert hk;refine zs4 ?_;intro hk
  ·exact jZ
  ·exact kH
  ·go_wp2_with fail
   refine (hw.out _ (((H2.out.keep (((Since.refl _).alloc _).alloc _)).keep S0.out).keep hs)).mono ?_;exact j5
  ·have K:=hid hk;clear hk;go_wp2_with (at_builtin;refine ZQ (w0:=w1) .i64 rfl _ _ 22 rfl 3 (.int .i64 0) 8 underlying22 Tryz.info3 rfl zaJ _ _ [] (makes n) rfl rfl K.out.1 K.out.2.1 zaE hs ?_;intro v' w' hb ha)
   exact⟨_,rfl,hb,ha⟩
  ·exact kH
  ·go_wp2_with fail
   refine (hu.out _).mono ?_;exact j5
  ·have K:=hid hk;clear hk;go_wp2_with (at_builtin;refine ZQ (w0:=w1) .i64 rfl _ _ 22 rfl 3 (.int .i64 0) 8 underlying22 Tryz.info3 rfl zaJ _ _ ([]++makes n) (Yy n) rfl rfl K.out.1 K.out.2.1 zaE hs ?_;intro v' w' hb ha)
   exact⟨_,rfl,hb,ha⟩
  ·exact kG
  ·have hy:Zy .i64 w2 (us 7) (changes n):=ZB (l:=changes n) hk.1;clear hk;obtain⟨a2,c2,e2⟩:=Zc hy;rw[e2]at hy ⊢;have Y:=hid hy;clear hy;have D1:=hid ho;clear ho;have D2:=hid hn;clear hn;have S1:=hid hs;clear hs;go_wp2
   refine Xp [true,false,true,false,true,false,false,true,true] [false,false,false,true,false,false,true,false,false] [false,false,false,false,false,false,false,false,true]
    rfl zaC zaC zaC rfl
    [Is (.slice a1 (changes m).length c1),IsRow w2 [],Is (.slice a2 (changes n).length c2),IsRow w2 ([]++changes n),Is (mv n bv),Zo .i64 (takes n),IsRow w2 ([]++changes n++takes n),Is (.bool (meetB (changes m) (changes n++takes n))),Is (.bool (meetB (changes m) (changes n++takes n)))]
    ⟨Is.stable _,IsRow.stable _ _,Is.stable _,IsRow.stable _ _,Is.stable _,Zo.stable _ _,IsRow.stable _ _,Is.stable _,Is.stable _,trivial⟩ ⟨Is.fixed _,Is.fixed _,Is.fixed _,Is.fixed _,Is.fixed _,trivial⟩ zaL ⟨?_,?_,?_,?_,?_,?_,?_,?_,?_,trivial⟩ ?_
   all_goals
    intro xs w3 hs hk;have hm:∀ i,w3.cell? ⟨w.heap.size,i,none⟩=_:=fun i=>(hs.cell (p:=⟨w.heap.size,i,none⟩) (Nat.lt_of_lt_of_le zaE (Nat.le_trans S0.out.size S1.out.size))).trans (D1.out i)
    have hd:∀ i,w3.cell? ⟨w.heap.size+1,i,none⟩=_:=fun i=>(hs.cell (p:=⟨w.heap.size+1,i,none⟩) (Nat.lt_of_lt_of_le zaL (Nat.le_trans S0.out.size S1.out.size))).trans (D2.out i)
    revert hk;refine zs4 ?_;intro hk
   ·exact kH
   ·exact jZ
   ·exact kH
   ·have K:=hid hk;clear hk;have HY:=hid (Y.out.keep hs);go_wp2_with (at_builtin;refine ZQ (w0:=w2) .i64 rfl _ _ 22 rfl 3 (.int .i64 0) 8 underlying22 Tryz.info3 rfl zaJ _ _ [] (changes n) rfl rfl K.out.1 HY.out zaE hs ?_;intro v' w' hb ha)
    exact⟨_,rfl,hb,ha⟩
   ·exact kH
   ·go_wp2_with fail
    refine (hr.out _ ((((H2.out.keep (((Since.refl _).alloc _).alloc _)).keep S0.out).keep S1.out).keep hs)).mono ?_;exact j5
   ·have K:=hid hk;clear hk;go_wp2_with (at_builtin;refine ZQ (w0:=w2) .i64 rfl _ _ 22 rfl 3 (.int .i64 0) 8 underlying22 Tryz.info3 rfl zaJ _ _ ([]++changes n) (takes n) rfl rfl K.out.1 K.out.2.1 zaE hs ?_;intro v' w' hb ha)
    exact⟨_,rfl,hb,ha⟩
   ·have hz:Zy .i64 w3 (xs 6) (changes n++takes n):=ZB (l:=changes n++takes n) hk.2.1;have Z:=hid hz;clear hz;clear hk;go_wp2_with fail
    refine (ZaI _ _ _ _ _ ((X.out.keep S1.out).keep hs) Z.out).mono ?_;rintro e w9 ⟨rfl,ha⟩;go_wp2
    exact⟨_,rfl,rfl,ha⟩
   ·exact kH
   ·have S2:=hid hs;clear hs;have F1:=hid hm;have F2:=hid hd;clear hd;go_wp2_with fail
    refine (ht.out _ ((((H.out.keep (((Since.refl _).alloc _).alloc _)).keep S0.out).keep S1.out).keep S2.out)).mono ?_;rintro e w4 ⟨v4,rfl,hh,hi⟩;obtain⟨a4,c4,e4⟩:=Zc hh;rw[e4]at hh ⊢;have V4:=hid hh;clear hh;clear hm;go_wp2_with fail
    refine (ZaI _ _ _ _ _ ((Y.out.keep S2.out).keep hi) V4.out).mono ?_;rintro e w5 ⟨rfl,hl⟩;have he:=hi.trans hl;have hJ:∀ i,w5.cell? ⟨w.heap.size,i,none⟩=_:=fun i=>(he.cell (p:=⟨w.heap.size,i,none⟩) (Nat.lt_of_lt_of_le zaE (Nat.le_trans S0.out.size (Nat.le_trans S1.out.size S2.out.size)))).trans (F1.out i)
    have hI:∀ i,w5.cell? ⟨w.heap.size+1,i,none⟩=_:=fun i=>(he.cell (p:=⟨w.heap.size+1,i,none⟩) (Nat.lt_of_lt_of_le zaL (Nat.le_trans S0.out.size (Nat.le_trans S1.out.size S2.out.size)))).trans (F2.out i)
    have hj:Since w w5:=(((Since.trans (((Since.refl _).alloc _).alloc _) S0.out).trans S1.out).trans S2.out).trans he;have HE:=hid hj;clear hj;clear hi hl he;have hg:Vl m n=(meetB (changes m) (changes n++takes n)||meetB (changes n) (takes m)||(strictB m.op&&strictB n.op)&&!(loadB m.op&&loadB n.op)):=rfl;have hB:(strictB m.op=false)∨(strictB m.op=true∧strictB n.op=false)∨(strictB m.op=true∧strictB n.op=true):=by cases strictB m.op<;>cases strictB n.op<;>simp
    have hA:(loadB m.op=false)∨(loadB m.op=true∧loadB n.op=false)∨(loadB m.op=true∧loadB n.op=true):=by cases loadB m.op<;>cases loadB n.op<;>simp
    obtain⟨p1,h1⟩:∃ p,meetB (changes m) (changes n++takes n)=p:=⟨_,rfl⟩
    obtain⟨p2,h2⟩:∃ p,meetB (changes n) (takes m)=p:=⟨_,rfl⟩
    rw[h1,h2]at hg;have HP:=hid hg;clear hg;rw[h1,h2];clear h1 h2
    cases p1<;>cases p2<;>rcases hB with q1 | ⟨q1,q2⟩ | ⟨q1,q2⟩<;>rcases hA with r1 | ⟨r1,r2⟩ | ⟨r1,r2⟩
    all_goals
     go_wp2_with (first | (go_at_call 117;refine (Zca _ _).mono ?_;rintro e w6 ⟨rfl,rfl⟩) | (go_at_call 118;refine (Zb4 _ _).mono ?_;rintro e w6 ⟨rfl,rfl⟩))
     go_ret
     refine⟨?_,HE.out⟩;rw[HP.out];simp[*]
theorem ZaJ (l a b:List Int):meetB l (a++b)=(meetB l a||meetB l b):=by
 unfold meetB;induction l with
 | nil=>rfl
 | cons x r ih =>
  rw[List.any_cons,List.any_cons,List.any_cons,ih,List.any_append];generalize (a.any fun y=>x==y)=p;generalize (b.any fun y=>x==y)=q;generalize (r.any fun x=>a.any fun y=>x==y)=s;generalize (r.any fun x=>b.any fun y=>x==y)=t
  cases p<;>cases q<;>cases s<;>cases t<;>rfl
theorem KY (m n:Mach):Zw m n=Vl m n:=by
 unfold Zw Vl;rw[ZaJ];generalize meetB (changes m) (changes n)=a;generalize meetB (changes m) (takes n)=b;generalize meetB (changes n) (takes m)=c;generalize (strictB m.op&&strictB n.op)=d;generalize (!(loadB m.op&&loadB n.op))=e
 cases a<;>cases b<;>cases c<;>cases d<;>cases e<;>rfl
end Go.Proofs.YtimpddecdodddaaGreat
