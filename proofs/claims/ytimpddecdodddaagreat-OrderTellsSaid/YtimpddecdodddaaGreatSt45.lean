import Derived.Test.YtimpddecdodddaaGreatSt07
namespace Go.Proofs.YtimpddecdodddaaGreat
open Go.Proofs.Tryz Go.RowKit Go.Lib
set_option linter.unusedVariables false
set_option maxHeartbeats 4000000
set_option maxRecDepth 100000
theorem zh {P:Prop} (h:P:=by
 clear hR HR;go_wp2
 go_loop [9] (fun i=>∃ t:Nat,t≤R.length∧i=.int .i64 t∧∀ (j:Nat) (x:Int),j<t→R[j]? = some x→0≤x∧x<k) (fun i=>R.length-(intOf i).toNat)
 case atStart=>exact⟨0,Nat.zero_le _,rfl,fun j x hj=>by omega⟩
 case round =>
  obtain⟨t,ht,rfl,hh⟩:=hrel;have hi:=hid hh;clear hh;by_cases hg:t<R.length
  ·obtain⟨_,hm⟩:=Zr HX.out;obtain⟨B,off,rfl,hB,ha⟩:=hm (by intro e;rw[e]at hg;simp at hg);obtain⟨x,hx⟩:∃ x,R[t]? = some x:=⟨_,List.getElem?_eq_getElem hg⟩
   have hz:=ha t x hx;have hn:=hid hx;clear ha hm hB hx;by_cases ho:x<0
   ·have hb:Yi k R=true:=by
     rw[hl.out,List.any_eq_true];exact⟨x,List.mem_of_getElem? hn.out,by simp[ho]⟩
    have HB:=hid hb;clear hb;go_wp2
    go_ret
    exact⟨by rw[←HP.out,HB.out];rfl,HS.out⟩
   ·have hu:decide (x<0)=false:=decide_eq_false ho;by_cases hc:k≤x
    ·have hb:Yi k R=true:=by
      rw[hl.out,List.any_eq_true];exact⟨x,List.mem_of_getElem? hn.out,by simp[hc]⟩
     have HB:=hid hb;clear hb;go_wp2
     go_ret
     exact⟨by rw[←HP.out,HB.out];rfl,HS.out⟩
    ·have hr:decide (k≤x)=false:=decide_eq_false hc;go_wp2
     go_round
     case rel=>exact⟨t+1,by omega,by go_num,fun j y hj hy=>by
      by_cases e:j=t
      ·subst e;rw[hn.out]at hy;cases hy;omega
      ·exact hi.out j y (by omega) hy⟩
     case measure=>simp[intOf];omega
  ·obtain rfl:t=R.length:=by omega
   have hb:Yi k R=false:=by
    rw[hl.out,List.any_eq_false];intro x hx;obtain⟨j,hj⟩:=List.getElem?_of_mem hx;have:=hi.out j x (List.getElem?_eq_some_iff.1 hj).1 hj;simp;omega
   rw[hb,if_neg (by decide)]at HP;clear hb;go_wp2
   go_ret
   exact⟨by rw[←HP.out];simp[Yh,ZM],HS.out⟩):P:=h
theorem zs {P:Prop} (h:P:=by
 by_cases i0:imm < -128
 ·have D1:decide ((-128:Int)≤imm)=false:=decide_eq_false (by omega);go_wp2
  go_ret
  exact⟨by rw[←HP.out];simp[Yh,ZM,D1],HS.out⟩
 ·have D1:decide ((-128:Int)≤imm)=true:=decide_eq_true (by omega);have i0':decide (imm<(-128:Int))=false:=decide_eq_false i0;by_cases i1:(127:Int)<imm
  ·have D2:decide (imm≤(127:Int))=false:=decide_eq_false (by omega);go_wp2
   go_ret
   exact⟨by rw[←HP.out];simp[Yh,ZM,D1,D2],HS.out⟩
  ·have D2:decide (imm≤(127:Int))=true:=decide_eq_true (by omega);have i1':decide ((127:Int)<imm)=false:=decide_eq_false i1;go_wp2
   go_ret
   exact⟨by rw[←HP.out];simp[Yh,ZM,D1,D2],HS.out⟩):P:=h
theorem zu {P:Prop} (h:P:=by
 by_cases i0:imm<0
 ·have D1:decide ((0:Int)≤imm)=false:=decide_eq_false (by omega);go_wp2
  go_ret
  exact⟨by rw[←HP.out];simp[Yh,ZM,D1],HS.out⟩
 ·have D1:decide ((0:Int)≤imm)=true:=decide_eq_true (by omega);have i0':decide (imm<(0:Int))=false:=decide_eq_false i0;by_cases i1:(255:Int)<imm
  ·have D2:decide (imm≤(255:Int))=false:=decide_eq_false (by omega);go_wp2
   go_ret
   exact⟨by rw[←HP.out];simp[Yh,ZM,D1,D2],HS.out⟩
  ·have D2:decide (imm≤(255:Int))=true:=decide_eq_true (by omega);have i1':decide ((255:Int)<imm)=false:=decide_eq_false i1;go_wp2
   go_ret
   exact⟨by rw[←HP.out];simp[Yh,ZM,D1,D2],HS.out⟩):P:=h
theorem zv {P:Prop} (h:P:=by
 by_cases i0:imm<0
 ·have D1:decide ((0:Int)≤imm)=false:=decide_eq_false (by omega);go_wp2
  go_ret
  exact⟨by rw[←HP.out];simp[Yh,ZM,D1],HS.out⟩
 ·have D1:decide ((0:Int)≤imm)=true:=decide_eq_true (by omega);have i0':decide (imm<(0:Int))=false:=decide_eq_false i0;by_cases i1:(31:Int)<imm
  ·have D2:decide (imm≤(31:Int))=false:=decide_eq_false (by omega);go_wp2
   go_ret
   exact⟨by rw[←HP.out];simp[Yh,ZM,D1,D2],HS.out⟩
  ·have D2:decide (imm≤(31:Int))=true:=decide_eq_true (by omega);have i1':decide ((31:Int)<imm)=false:=decide_eq_false i1;go_wp2
   go_ret
   exact⟨by rw[←HP.out];simp[Yh,ZM,D1,D2],HS.out⟩):P:=h
theorem zx {P:Prop} (h:P:=by
 have hI:imm≤2147483647:=HF.out.2.1;by_cases i0:imm<0
 ·have D1:decide (imm<(0:Int))=true:=decide_eq_true i0;go_wp2
  go_ret
  exact⟨by rw[←HP.out];simp[ZM,D1],HS.out⟩
 ·have D1:decide (imm<(0:Int))=false:=decide_eq_false i0;by_cases i1:slots≤imm
  ·have D2:decide (slots≤imm)=true:=decide_eq_true i1;go_wp2
   go_ret
   exact⟨by rw[←HP.out];simp[ZM,D1,D2],HS.out⟩
  ·have D2:decide (slots≤imm)=false:=decide_eq_false i1;go_wp2
   go_ret
   exact⟨by rw[←HP.out];simp[Yh,ZM,D1,D2],HS.out⟩):P:=h
theorem zE {P:Prop} (h:P:=by
 have hs:shapeB ⟨op,d,e,a,b,c,imm,args⟩=false:=by unfold shapeB;dsimp only;rw[if_neg (by omega),if_neg (by omega)];simp;omega
 rw[if_pos hs]at hE;clear hs;have HE:=hid hE;clear hE;go_enter func41,ntmps41
 go_wp2
 go_ret
 exact⟨by rw[←HE.out];rfl,(Since.refl _).alloc _⟩):P:=h
theorem z7 {P:Prop} (h:P:=by
 rw[if_pos hs]at hE;have hK:(d != 0)=true:=by simpa using hd
 clear hs hd;have HE:=hid hE;clear hE;go_enter func41,ntmps41
 go_wp2
 go_ret
 exact⟨by rw[←HE.out];rfl,(Since.refl _).alloc _⟩):P:=h
theorem qM {P:Prop} (h:P:=by
 go_enter func69,ntmps69
 go_wp2
 go_ret
 exact Zk ((Since.refl _).alloc _) _ _ (by simp) rfl (by simp[maxLen]) rfl):P:=h
theorem qS {P:Prop} (h:P:=by
 have HE:=hid hE;clear hE;go_enter func41,ntmps41
 go_wp2
 go_ret
 exact⟨by rw[←HE.out];rfl,(Since.refl _).alloc _⟩):P:=h
def OwnR (W0:World) (l:List Int) (v:Value) (w:World):Prop:=w.ownsRow W0.heap.size 3 1 v l.length (l.map (Value.int .i64))
theorem OwnR.stable (W0:World) (l:List Int):ZH (OwnR W0 l):=fun _ _ _ h s=>Zv h s
theorem Qo (m:Mach) (av:Value) (w:World) (h:Zd w av m.args) (hf:Xt m) :
  Calls prog 69 #[mv m av] w (Yo w (Yg m)):=by
 have HT:=hid (fun w h=>VR m av w h hf);have HM:=hid (fun w h=>VS m av w h hf);have hc:=hid (Jc m hf.2.2);have he:=hid (Wj m);have H:=hid h;clear h hf;unfold mv at HT HM ⊢;by_cases g1:m.op=30
 ·have e:Yg m=[m.d]:=by
   unfold Yg takes7 makes7;rw[if_pos (.inl g1),if_neg zaK,if_neg zaK,if_neg zaK,if_neg zaK,if_neg zaK,if_neg zaK,if_neg zaK];rfl
  rw[e];have g1':(m.op==30)=true:=by simpa using g1
  clear g1 e;exact qM
 ·have g1':(m.op==30)=false:=by simpa using g1
  by_cases g2:m.op=31
  ·have e:Yg m=[m.a]:=by
    unfold Yg takes7 makes7;rw[if_pos (.inr g2),if_pos zaK,if_neg zaK,if_neg zaK,if_pos zaK];rfl
   rw[e];have g2':(m.op==31)=true:=by simpa using g2
   clear g1 g2 e;exact qM
  ·have g2':(m.op==31)=false:=by simpa using g2
   have e:Yg m=takes m++makes m:=by
    unfold Yg;rw[if_neg zaK]
   rw[e];clear g1 g2 e;go_enter func69,ntmps69
   go_wp2_with fail
   refine Xp [false,true,false,false,true,false,false,false] [false,false,false,true,false,false,true,false] [false,false,false,false,false,false,false,true]
    rfl zaC zaC zaC rfl
    [OwnR (w.alloc (.cells #[.int .i64 m.op,.int .i64 m.d,.int .i64 m.e,.int .i64 m.a,.int .i64 m.b,.int .i64 m.c,.int .i32 m.imm,av] 36)) [],Is (mv m av),Zo .i64 (takes m),OwnR (w.alloc (.cells #[.int .i64 m.op,.int .i64 m.d,.int .i64 m.e,.int .i64 m.a,.int .i64 m.b,.int .i64 m.c,.int .i32 m.imm,av] 36)) ([]++takes m),Is (mv m av),Zo .i64 (makes m),OwnR (w.alloc (.cells #[.int .i64 m.op,.int .i64 m.d,.int .i64 m.e,.int .i64 m.a,.int .i64 m.b,.int .i64 m.c,.int .i32 m.imm,av] 36)) ([]++takes m++makes m),OwnR (w.alloc (.cells #[.int .i64 m.op,.int .i64 m.d,.int .i64 m.e,.int .i64 m.a,.int .i64 m.b,.int .i64 m.c,.int .i32 m.imm,av] 36)) ([]++takes m++makes m)]
    ⟨OwnR.stable _ _,Is.stable _,Zo.stable _ _,OwnR.stable _ _,Is.stable _,Zo.stable _ _,OwnR.stable _ _,OwnR.stable _ _,trivial⟩ ⟨Is.fixed _,Is.fixed _,trivial⟩ zaL ⟨?_,?_,?_,?_,?_,?_,?_,?_,trivial⟩ ?_
   all_goals
    intro vs w1 hs hk;have hd:∀ i,w1.cell? ⟨w.heap.size,i,none⟩=_:=fun i=>hs.cell (p:=⟨w.heap.size,i,none⟩) zaL
    revert hk;refine zs4 ?_;intro hk
   ·exact jZ
   ·exact kH
   ·go_wp2_with fail
    refine (HT.out _ ((H.out.keep ((Since.refl _).alloc _)).keep hs)).mono ?_;exact j4
   ·have K:=hid hk;clear hk;go_wp2_with (at_builtin;refine ZQ (w0:=w.alloc (.cells #[.int .i64 m.op,.int .i64 m.d,.int .i64 m.e,.int .i64 m.a,.int .i64 m.b,.int .i64 m.c,.int .i32 m.imm,av] 36)) .i64 rfl _ _ 22 rfl 3 (.int .i64 0) 8 underlying22 Tryz.info3 rfl zaJ _ _ [] (takes m) rfl rfl K.out.1 K.out.2.1 (by have:=hc.out;simp;omega) hs ?_;intro v' w' hb ha)
    exact⟨_,rfl,hb,ha⟩
   ·exact kH
   ·exact qY
   ·have K:=hid hk;clear hk;go_wp2_with (at_builtin;refine ZQ (w0:=w.alloc (.cells #[.int .i64 m.op,.int .i64 m.d,.int .i64 m.e,.int .i64 m.a,.int .i64 m.b,.int .i64 m.c,.int .i32 m.imm,av] 36)) .i64 rfl _ _ 22 rfl 3 (.int .i64 0) 8 underlying22 Tryz.info3 rfl zaJ _ _ ([]++takes m) (makes m) rfl rfl K.out.1 K.out.2.1 (by have:=hc.out;have:=he.out;simp;omega) hs ?_;intro v' w' hb ha)
    exact⟨_,rfl,hb,ha⟩
   ·exact kG
   ·have hx:Zy .i64 w1 (vs 7) (takes m++makes m):=ZB (l:=takes m++makes m) hk.1;clear hk hd;obtain⟨a1,c1,e1⟩:=Zc hx;rw[e1]at hx ⊢;have X:=hid hx;clear hx;go_wp2
    go_ret
    exact⟨_,rfl,X.out,((Since.refl _).alloc _).trans hs⟩
theorem ZdD (m:Mach) (av:Value) (k slots:Int) (w:World) (h:Zd w av m.args) (hf:Xt m) :
  Calls prog 41 #[mv m av,.int .i64 k,.int .i64 slots] w (NumP (Y9 m k slots) w):=by
 have HR:=hid (fun w h=>Qo m av w h hf);have HF:=hid hf;have hw:=h.len;unfold maxLen at hw;obtain⟨aa,ac,rfl⟩:=Zc h;have H:=hid h;clear h hf;generalize hE:Y9 m k slots=E;unfold Y9 at hE;obtain⟨op,d,e,a,b,c,imm,args⟩:=m;have hq:Yi k (Yg ⟨op,d,e,a,b,c,imm,args⟩)=(Yg ⟨op,d,e,a,b,c,imm,args⟩).any fun r=>decide (r<0)||decide (k≤r):=rfl
 have hl:=hid hq;clear hq;dsimp only at hw H hE;unfold mv at HR ⊢;dsimp only at HR ⊢;by_cases hH:op<1
 ·exact zE
 have hM:decide (op<1)=false:=decide_eq_false hH;by_cases hJ:31<op
 ·exact zE
 have hN:decide (31<op)=false:=decide_eq_false hJ;by_cases g28:op=28
 ·subst g28;by_cases hD:4<args.length
  ·have hs:shapeB ⟨28,d,e,a,b,c,imm,args⟩=false:=by unfold shapeB;dsimp only;rw[if_pos rfl,decide_eq_false (show ¬ args.length≤4 by omega)];simp
   rw[if_pos hs]at hE;have hG:(4:Int)<(args.length:Int):=zaK
   clear hs hD;exact qS
  have hG:decide ((4:Int)<(args.length:Int))=false:=decide_eq_false zaK;by_cases hd:d=0
  rotate_left
  ·have hs:shapeB ⟨28,d,e,a,b,c,imm,args⟩=false:=by unfold shapeB;dsimp only;rw[if_pos rfl,beq_eq_false_iff_ne.2 hd];simp
   exact z7
  subst hd;have hC:shapeB ⟨28,0,e,a,b,c,imm,args⟩=YX args 0:=by unfold shapeB;dsimp only;rw[if_pos rfl,decide_eq_true (show args.length≤4 by omega)];simp
  rw[hC]at hE;have HP:=hid hE;clear hE hC hD;go_enter func41,ntmps41
  go_wp2
  go_loop [7] (fun i=>∃ t:Nat,t≤args.length∧i=.int .i64 t∧∀ (j:Nat) (x:Int),j<t→args[j]? = some x→x=(j:Int)) (fun i=>args.length-(intOf i).toNat)
  case atStart=>exact⟨0,Nat.zero_le _,rfl,fun j x hj=>by omega⟩
  case round =>
   obtain⟨t,ht,rfl,hh⟩:=hrel;have hi:=hid hh;clear hh;by_cases hg:t<args.length
   ·obtain⟨_,hm⟩:=Zr H.out;obtain⟨B,off,rfl,hB,ha⟩:=hm zab;obtain⟨x,hx⟩:∃ x,args[t]? = some x:=⟨_,List.getElem?_eq_getElem hg⟩
    have hz:=(((Since.refl w).alloc (.cells #[.int .i64 28,.int .i64 0,.int .i64 e,.int .i64 a,.int .i64 b,.int .i64 c,.int .i32 imm,.slice (some ⟨B,off,none⟩) args.length ac] 36)).cell (p:=⟨B,off+t,none⟩) hB).trans (ha t x hx);have HX:=hid hx;clear ha hm hB hx;by_cases hc:x=(t:Int)
    ·have hb:(x != (t:Int))=false:=by simp[hc]
     have hL:=hid hc;clear hc;go_wp2
     go_round
     case rel=>exact⟨t+1,zaK,by go_num,fun j y hj hy=>by
      by_cases e:j=t
      ·subst e;rw[HX.out]at hy;cases hy;exact hL.out
      ·exact hi.out j y zaK hy⟩
     case measure=>simp[intOf];omega
    ·have hb:(x != (t:Int))=true:=by simpa using hc
     have hs:YX args 0=false:=KJ HX.out hc;rw[if_pos hs]at HP;clear hs hc;go_wp2
     go_ret
     exact⟨by rw[←HP.out];rfl,(Since.refl _).alloc _⟩
   ·obtain rfl:t=args.length:=zaK
    have hs:YX args 0=true:=(Wy args 0).2 fun j x hj=>by rw[Nat.zero_add];exact hi.out j x (List.getElem?_eq_some_iff.1 hj).1 hj
    rw[hs,if_neg zaJ]at HP;clear hs;go_wp2_with fail
    refine (HR.out _ (H.out.keep ((Since.refl _).alloc _))).mono ?_;rintro e0 w1 ⟨v,rfl,hv,hk⟩;have hF:∀ i,w1.cell? ⟨w.heap.size,i,none⟩=_:=fun i=>hk.cell (p:=⟨w.heap.size,i,none⟩) zaL
    obtain⟨ra,rc,rfl⟩:=Zc hv;have hp:=hv.len;unfold maxLen at hp;have HX:=hid hv;have hA:w.heap.size<w1.heap.size:=by have:=hk.size;simp at this;omega
    have HS:=hid (((Since.refl w).alloc (.cells #[.int .i64 28,.int .i64 0,.int .i64 e,.int .i64 a,.int .i64 b,.int .i64 c,.int .i32 imm,.slice aa args.length ac] 36)).trans hk);clear hv hk;generalize hR:Yg ⟨28,0,e,a,b,c,imm,args⟩=R at *;exact zh
 have n28:(op==28)=false:=by simpa using g28
 by_cases g29:op=29
 ·subst g29;by_cases hd:d=0
  rotate_left
  ·have hs:shapeB ⟨29,d,e,a,b,c,imm,args⟩=false:=by unfold shapeB;dsimp only;rw[if_neg zaJ,if_pos rfl,beq_eq_false_iff_ne.2 hd];simp
   exact z7
  subst hd;by_cases he:e=1
  rotate_left
  ·have hs:shapeB ⟨29,0,e,a,b,c,imm,args⟩=false:=by unfold shapeB;dsimp only;rw[if_neg zaJ,if_pos rfl,beq_eq_false_iff_ne.2 he];simp
   rw[if_pos hs]at hE;have hO:(e != 1)=true:=by simpa using he
   clear hs he;exact qS
  subst he;have hs:shapeB ⟨29,0,1,a,b,c,imm,args⟩=true:=rfl;rw[if_neg (by rw[hs];decide)]at hE;have HP:=hid hE;clear hE hs;go_enter func41,ntmps41
  go_wp2
  go_loop [7] (fun i=>i=.int .i64 0) (fun _=>0)
  case atStart=>rfl
  case round =>
   obtain rfl:=hrel;go_wp2_with fail
   refine (HR.out _ (H.out.keep ((Since.refl _).alloc _))).mono ?_;rintro e0 w1 ⟨v,rfl,hv,hk⟩;have hF:∀ i,w1.cell? ⟨w.heap.size,i,none⟩=_:=fun i=>hk.cell (p:=⟨w.heap.size,i,none⟩) zaL
   obtain⟨ra,rc,rfl⟩:=Zc hv;have hp:=hv.len;unfold maxLen at hp;have HX:=hid hv;have hA:w.heap.size<w1.heap.size:=by have:=hk.size;simp at this;omega
   have HS:=hid (((Since.refl w).alloc (.cells #[.int .i64 29,.int .i64 0,.int .i64 1,.int .i64 a,.int .i64 b,.int .i64 c,.int .i32 imm,.slice aa args.length ac] 36)).trans hk);clear hv hk;generalize hR:Yg ⟨29,0,1,a,b,c,imm,args⟩=R at *;exact zh
 have n29:(op==29)=false:=by simpa using g29
 have hs:shapeB ⟨op,d,e,a,b,c,imm,args⟩=true:=by unfold shapeB;dsimp only;rw[if_neg g28,if_neg g29];simp;omega
 rw[if_neg (by rw[hs];decide)]at hE;have HP:=hid hE;clear hE hs;go_enter func41,ntmps41
 go_wp2
 go_loop [7] (fun i=>i=.int .i64 0) (fun _=>0)
 case atStart=>rfl
 case round =>
  obtain rfl:=hrel;go_wp2_with fail
  refine (HR.out _ (H.out.keep ((Since.refl _).alloc _))).mono ?_;rintro e0 w1 ⟨v,rfl,hv,hk⟩;have hF:∀ i,w1.cell? ⟨w.heap.size,i,none⟩=_:=fun i=>hk.cell (p:=⟨w.heap.size,i,none⟩) zaL
  obtain⟨ra,rc,rfl⟩:=Zc hv;have hp:=hv.len;unfold maxLen at hp;have HX:=hid hv;have hA:w.heap.size<w1.heap.size:=by have:=hk.size;simp at this;omega
  have HS:=hid (((Since.refl w).alloc (.cells #[.int .i64 op,.int .i64 d,.int .i64 e,.int .i64 a,.int .i64 b,.int .i64 c,.int .i32 imm,.slice aa args.length ac] 36)).trans hk);clear hv hk;generalize hR:Yg ⟨op,d,e,a,b,c,imm,args⟩=R at *;clear hR HR;go_wp2
  go_loop [9] (fun i=>∃ t:Nat,t≤R.length∧i=.int .i64 t∧∀ (j:Nat) (x:Int),j<t→R[j]? = some x→0≤x∧x<k) (fun i=>R.length-(intOf i).toNat)
  case atStart=>exact⟨0,Nat.zero_le _,rfl,fun j x hj=>by omega⟩
  case round =>
   obtain⟨t,ht,rfl,hh⟩:=hrel;have hi:=hid hh;clear hh;by_cases hg:t<R.length
   ·obtain⟨_,hm⟩:=Zr HX.out;obtain⟨B,off,rfl,hB,ha⟩:=hm zab;obtain⟨x,hx⟩:∃ x,R[t]? = some x:=⟨_,List.getElem?_eq_getElem hg⟩
    have hz:=ha t x hx;have hn:=hid hx;clear ha hm hB hx;by_cases ho:x<0
    ·have hb:Yi k R=true:=by
      rw[hl.out,List.any_eq_true];exact⟨x,List.mem_of_getElem? hn.out,by simp[ho]⟩
     exact jD
    ·have hu:decide (x<0)=false:=decide_eq_false ho;by_cases hc:k≤x
     ·have hb:Yi k R=true:=by
       rw[hl.out,List.any_eq_true];exact⟨x,List.mem_of_getElem? hn.out,by simp[hc]⟩
      exact jD
     ·have hr:decide (k≤x)=false:=decide_eq_false hc;go_wp2
      go_round
      case rel=>exact⟨t+1,zaK,by go_num,fun j y hj hy=>by
       by_cases e:j=t
       ·subst e;rw[hn.out]at hy;cases hy;omega
       ·exact hi.out j y zaK hy⟩
      case measure=>simp[intOf];omega
   ·obtain rfl:t=R.length:=zaK
    have hb:Yi k R=false:=by
     rw[hl.out,List.any_eq_false];intro x hx;obtain⟨j,hj⟩:=List.getElem?_of_mem hx;have:=hi.out j x (List.getElem?_eq_some_iff.1 hj).1 hj;simp;omega
    rw[hb,if_neg zaJ]at HP;clear hb;by_cases g30:op=30
    ·subst g30;exact zx
    have n30:(op==30)=false:=by simpa using g30
    by_cases g31:op=31
    ·subst g31;exact zx
    have n31:(op==31)=false:=by simpa using g31
    by_cases g3:op=3
    ·subst g3;by_cases i0:imm < -32768
     ·have D1:decide ((-32768:Int)≤imm)=false:=decide_eq_false zaK;go_wp2
      go_ret
      exact⟨by rw[←HP.out];simp[Yh,ZM,D1],HS.out⟩
     ·have D1:decide ((-32768:Int)≤imm)=true:=decide_eq_true zaK;have i0':decide (imm<(-32768:Int))=false:=decide_eq_false i0;by_cases i1:(32767:Int)<imm
      ·have D2:decide (imm≤(32767:Int))=false:=decide_eq_false zaK;go_wp2
       go_ret
       exact⟨by rw[←HP.out];simp[Yh,ZM,D1,D2],HS.out⟩
      ·have D2:decide (imm≤(32767:Int))=true:=decide_eq_true zaK;have i1':decide ((32767:Int)<imm)=false:=decide_eq_false i1;go_wp2
       go_ret
       exact⟨by rw[←HP.out];simp[Yh,ZM,D1,D2],HS.out⟩
    have n3:(op==3)=false:=by simpa using g3
    by_cases g18:op=18
    ·subst g18;exact zs
    have n18:(op==18)=false:=by simpa using g18
    by_cases g19:op=19
    ·subst g19;exact zs
    have n19:(op==19)=false:=by simpa using g19
    by_cases g20:op=20
    ·subst g20;exact zv
    have n20:(op==20)=false:=by simpa using g20
    by_cases g21:op=21
    ·subst g21;exact zv
    have n21:(op==21)=false:=by simpa using g21
    by_cases g22:op=22
    ·subst g22;exact zv
    have n22:(op==22)=false:=by simpa using g22
    by_cases g24:op=24
    ·subst g24;exact zu
    have n24:(op==24)=false:=by simpa using g24
    by_cases g26:op=26
    ·subst g26;exact zu
    have n26:(op==26)=false:=by simpa using g26
    go_wp2
    go_ret
    exact⟨by rw[←HP.out];simp[Yh,ZM,g3,g18,g19,g20,g21,g22,g24,g26,n30,n31],HS.out⟩
end Go.Proofs.YtimpddecdodddaaGreat
