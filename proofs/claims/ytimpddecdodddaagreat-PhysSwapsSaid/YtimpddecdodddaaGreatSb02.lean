import Derived.Test.YtimpddecdodddaaGreatSb01
namespace Go.Proofs.YtimpddecdodddaaGreat
open Go.RowKit Go.Lib
set_option linter.unusedVariables false
set_option maxHeartbeats 4000000
set_option maxRecDepth 100000
theorem zo {P:Prop} (h:P:=by
 obtain⟨_,hw⟩:=Zx HX.out;obtain⟨B,off,rfl,hB,hh⟩:=hw (by intro e;rw[e]at hl;simp at hl);obtain⟨x,hx⟩:∃ x,R[t]? = some x:=⟨_,List.getElem?_eq_getElem hl⟩
 have h3:=hh t x hx;have ho:=hid hx;clear hh hw hB hx;by_cases hG:x<0
 ·have hb:YC k R=true:=by
   rw[he.out,List.any_eq_true];exact⟨x,List.mem_of_getElem? ho.out,by simp[hG]⟩
  have HB:=hid hb;clear hb;go_wp2
  go_ret
  exact⟨by rw[←HP.out,HB.out];rfl,hd.out⟩
 ·by_cases hF:k≤x
  ·have hb:YC k R=true:=by
    rw[he.out,List.any_eq_true];exact⟨x,List.mem_of_getElem? ho.out,by simp[hF]⟩
   have HB:=hid hb;clear hb;go_wp2
   go_ret
   exact⟨by rw[←HP.out,HB.out];rfl,hd.out⟩
  ·go_wp2
   go_round
   case rel=>exact⟨t+1,by omega,by go_num,fun j y hj hy=>by
    by_cases e:j=t
    ·subst e;rw[ho.out]at hy;cases hy;omega
    ·exact hp.out j y (by omega) hy⟩
   case measure=>simp[intOf];omega):P:=h
theorem zV {P:Prop} (h:P:=by
 obtain⟨h1,h2,_⟩:=hk;obtain⟨a1,c1,e1⟩:=Zb h1;obtain⟨a2,c2,e2⟩:=Zb h2;rw[e1]at h1 ⊢;rw[e2]at h2 ⊢;have H1:=hid h1;clear h1;have H2:=hid h2;clear h2;go_wp2
 exact⟨_,rfl,V5 rfl _ H1.out H2.out,(Since.refl _).alloc _⟩):P:=h
theorem zY {P:Prop} (h:P:=by
 obtain⟨⟨v1,v2,h1⟩,_⟩:=hk;have H1:=hid h1;clear h1;go_wp2_with fail
 refine (VS _ _ _ H1.out (by simp) (by simp[total];have:=hP.out;have:=hQ.out;omega)).mono ?_;rintro e w2 ⟨v,rfl,hv,ha⟩;go_wp2
 exact⟨_,rfl,hv,ha⟩):P:=h
theorem qe {P:Prop} (h:P:=by
 rw[if_pos (by decide)];go_enter Tryz.func62,Tryz.ntmps62
 go_wp2_with fail
 refine (B8.out _).mono ?_;rintro e w1 ⟨rfl,rfl⟩;go_wp2
 go_ret
 exact⟨rfl,(Since.refl _).alloc _⟩):P:=h
theorem qD {P:Prop} (h:P:=by
 go_wp2_with fail
 refine (hS.out _ (Since.refl _)).mono ?_;rintro e w3 ⟨rfl,hH⟩
 cases I<;>(go_wp2;go_ret;exact⟨by rw[←HP.out];rfl,hd.out.trans hH⟩)):P:=h
theorem qH {P:Prop} (h:P:=by rw[he.out,List.any_eq_false];intro x hx;obtain⟨j,hj⟩:=List.getElem?_of_mem hx;have:=hp.out j x (List.getElem?_eq_some_iff.1 hj).1 hj;simp;omega):P:=h
theorem qX {P:Prop} (h:P:=by
 rw[decide_eq_false h1,Bool.false_and];go_enter Tryz.func88,Tryz.ntmps88
 go_wp2
 go_ret
 exact⟨rfl,rfl⟩):P:=h
theorem yp {P:Prop} (h:P:=by
 clear hW h;go_enter Tryz.func170,Tryz.ntmps170
 go_wp2
 go_end0
 exact⟨rfl,by rw[HW.out]⟩):P:=h
theorem yG {P:Prop} (h:P:=by
 go_enter Tryz.func172,Tryz.ntmps172
 go_wp2
 go_ret2
 exact⟨rfl,rfl⟩):P:=h
theorem yH {P:Prop} (h:P:=by
 go_enter Tryz.func40,Tryz.ntmps40
 go_wp2
 go_ret
 exact⟨rfl,rfl⟩):P:=h
theorem yL {P:Prop} (h:P:=by
 go_enter Tryz.func88,Tryz.ntmps88
 go_wp2
 go_ret
 exact⟨rfl,rfl⟩):P:=h
theorem yP {P:Prop} (h:P:=by
 go_enter Tryz.func90,Tryz.ntmps90
 go_wp2
 go_ret
 exact⟨rfl,rfl⟩):P:=h
theorem yZ {P:Prop} (h:P:=by
 rintro e w1 ⟨rfl,rfl⟩;go_wp2
 go_ret
 exact⟨rfl,(Since.refl _).alloc _⟩):P:=h
theorem jn {P:Prop} (h:P:=by
 rintro e w2 ⟨v,rfl,hv,ha⟩;go_wp2
 exact⟨_,rfl,hv,ha⟩):P:=h
theorem jD {P:Prop} (h:P:=by simp[World.setCell,Array.getElem?_modify,h]):P:=h
theorem jS {P:Prop} (h:P:=by repeat (first | exact trivial | refine⟨Is.stable _,?_⟩ | refine⟨Zn.stable _ _,?_⟩ | refine⟨Zz.stable _ _,?_⟩)):P:=h
def NumP (x:Int) (w:World) (e:Ending) (w':World):Prop:=e=.returned (.int .i64 x)∧Since w w'
def Zah (p:Bool) (w:World) (e:Ending) (w':World):Prop:=e=.returned (.bool p)∧w=w'
theorem Xc (n l h:Int) (w:World):Calls Tryz.prog 40 #[.int .i64 n,.int .i64 l,.int .i64 h] w (Zah (decide (l≤n)&&decide (n≤h)) w):=by
 by_cases h1:l≤n
 ·by_cases h2:n≤h
  ·rw[decide_eq_true h1,decide_eq_true h2];exact yH
  ·rw[decide_eq_true h1,decide_eq_false h2];exact yH
 ·rw[decide_eq_false h1,Bool.false_and];exact yH
theorem Zd8 (n:Int) (w:World) (h : -2147483648≤n) (h2:n≤2147483647):Calls Tryz.prog 88 #[.int .i32 n,.int .i64 16] w (Zah (decide (-32768≤n)&&decide (n≤32767)) w):=by
 by_cases h1 : -32768≤n
 ·by_cases h2:n<32768
  ·rw[decide_eq_true h1,decide_eq_true (show n≤32767 by omega)];exact yL
  ·rw[decide_eq_true h1,decide_eq_false (show ¬ n≤32767 by omega)];exact yL
 ·exact qX
theorem ZeI (n:Int) (w:World) (h : -2147483648≤n) (h2:n≤2147483647):Calls Tryz.prog 88 #[.int .i32 n,.int .i64 8] w (Zah (decide (-128≤n)&&decide (n≤127)) w):=by
 by_cases h1 : -128≤n
 ·by_cases h2:n<128
  ·rw[decide_eq_true h1,decide_eq_true (show n≤127 by omega)];exact yL
  ·rw[decide_eq_true h1,decide_eq_false (show ¬ n≤127 by omega)];exact yL
 ·exact qX
theorem ZaC (m:Mach) (av:Value) (w:World) (h : -2147483648≤m.imm) (h2:m.imm≤2147483647):Calls Tryz.prog 62 #[mv m av] w (TellsS (VP m) w):=by
 obtain⟨op,d,e,a,b,c,imm,args⟩:=m;dsimp only at h h2;unfold mv VP;dsimp only;have B16:=hid (fun w=>Zd8 imm w h h2);have B8:=hid (fun w=>ZeI imm w h h2);have W1:=hid (fun w=>Xc imm 0 31 w);have W2:=hid (fun w=>Xc imm 0 255 w);by_cases g3:op=3
 ·subst g3;rw[if_pos rfl];go_enter Tryz.func62,Tryz.ntmps62
  go_wp2_with fail
  refine (B16.out _).mono ?_;exact yZ
 rw[if_neg g3];by_cases g18:op=18
 ·subst g18;exact qe
 by_cases g19:op=19
 ·subst g19;exact qe
 rw[if_neg kT];by_cases g20:op=20∨op=21∨op=22
 ·rw[if_pos g20];rcases g20 with rfl|rfl|rfl;all_goals
   go_enter Tryz.func62,Tryz.ntmps62
   go_wp2_with fail
   refine (W1.out _).mono ?_;rintro e w1 ⟨rfl,rfl⟩;go_wp2
   go_ret
   exact⟨rfl,(Since.refl _).alloc _⟩
 rw[if_neg g20];by_cases g24:op=24∨op=26
 ·rw[if_pos g24];rcases g24 with rfl|rfl;all_goals
   go_enter Tryz.func62,Tryz.ntmps62
   go_wp2_with fail
   refine (W2.out _).mono ?_;rintro e w1 ⟨rfl,rfl⟩;go_wp2
   go_ret
   exact⟨rfl,(Since.refl _).alloc _⟩
 rw[if_neg g24];have n3:(op==3)=false:=by simpa using g3
 have n18:(op==18)=false:=by simpa using g18
 have n19:(op==19)=false:=by simpa using g19
 have n20:=zN op 20;have n21:=zN op 21;have n22:=zN op 22;have n24:=zN op 24;have n26:=zN op 26;clear g3 g18 g19 g20 g24;go_enter Tryz.func62,Tryz.ntmps62
 go_wp2
 go_ret
 exact⟨rfl,(Since.refl _).alloc _⟩
theorem Wp:∀ (l:List Int) (n:Nat),Xm l n=true↔∀ (j:Nat) (x:Int),l[j]? = some x→x=((n+j:Nat):Int)
 | [],n=>by simp[Xm]
 | r::l,n=>by
  unfold Xm
  rw[Bool.and_eq_true,beq_iff_eq,Wp l (n+1)]
  constructor
  ·rintro⟨h1,h2⟩ j x hj
   cases j with
   | zero=>simp at hj;rw[←hj,h1];simp
   | succ j=>have:=h2 j x (by simpa using hj);rw[this];congr 1;omega
  ·intro h
   refine⟨by have:=h 0 r rfl;simpa using this,fun j x hj=>?_⟩
   have:=h (j+1) x (by simpa using hj)
   rw[this];congr 1;omega
theorem ZaV {l : List Int} {k : Nat} {x : Int} (hx:l[k]? = some x) (ha:x≠(k:Int)):Xm l 0=false:=by
 cases h:Xm l 0 with
 | false=>rfl
 | true=>exact absurd (by have:=(Wp l 0).1 h k x hx;simpa using this) ha
theorem ZbA (m:Mach) (av:Value) (w:World) (h:Zi w av m.args):Calls Tryz.prog 57 #[mv m av] w (TellsS (shapeB m) w):=by
 obtain⟨ad,cap,rfl⟩:=Zb h;have hg:=h.len;unfold maxLen at hg;obtain⟨op,d,e,a,b,c,imm,args⟩:=m;dsimp only at h hg;unfold mv shapeB;dsimp only;by_cases g28:op=28
 ·subst g28;rw[if_pos rfl];have H:=hid h;clear h;generalize hn:args.length=n at *;have HN:=hid hn;clear hn;generalize hP:(Xm args 0&&decide (n≤4)&&d==0)=P;have hi:=hid hP;clear hP;go_enter Tryz.func57,Tryz.ntmps57
  go_wp2
  go_loop [12] (fun i=>∃ k:Nat,k≤n∧i=.int .i64 k∧∀ (j:Nat) (x:Int),j<k→args[j]? = some x→x=(j:Int)) (fun i=>n-(intOf i).toNat)
  case atStart=>exact⟨0,Nat.zero_le _,rfl,fun j x hj=>by omega⟩
  case round =>
   obtain⟨k,hk,rfl,hh⟩:=hrel;have hl:=hid hh;clear hh;by_cases hs:k<n
   ·obtain⟨_,hc⟩:=Zx (HN.out ▸ H.out);obtain⟨B,off,rfl,hB,hf⟩:=hc (by intro e;have:=HN.out;rw[e]at this;simp at this;omega);obtain⟨x,hx⟩:∃ x,args[k]? = some x:=⟨_,List.getElem?_eq_getElem (by have:=HN.out;omega)⟩
    have ht:=(((Since.refl w).alloc (.cells #[.int .i64 28,.int .i64 d,.int .i64 e,.int .i64 a,.int .i64 b,.int .i64 c,.int .i32 imm,.slice (some ⟨B,off,none⟩) n cap] 36)).cell (p:=⟨B,off+k,none⟩) hB).trans (hf k x hx);have HX:=hid hx;clear hf hc hB hx;by_cases ha:x=(k:Int)
    ·have hb:(x != (k:Int))=false:=by simp[ha]
     have hq:=hid ha;clear ha;go_wp2
     go_round
     case rel=>exact⟨k+1,kT,by go_num,fun j y hj hy=>by
      by_cases e:j=k
      ·subst e;rw[HX.out]at hy;cases hy;exact hq.out
      ·exact hl.out j y kT hy⟩
     case measure=>simp[intOf];omega
    ·have hb:(x != (k:Int))=true:=by simpa using ha
     have hm:=ZaV HX.out ha;have hr:=hid hm;clear hm ha;go_wp2
     go_ret
     exact⟨by rw[←hi.out,hr.out];rfl,(Since.refl _).alloc _⟩
   ·obtain rfl:k=n:=kT
    have hp:Xm args 0=true:=(Wp args 0).2 fun j x hj=>by
     have:=hl.out j x (by have:=(List.getElem?_eq_some_iff.1 hj).1;have:=HN.out;omega) hj
     simpa using this
    have HP:=hid hp;clear hp;by_cases h4:k≤4
    ·have ho:decide ((k:Int)≤4)=true:=by simp;omega
     cases hd:(d==0)
     all_goals
      go_wp2
      go_ret
      exact⟨by rw[←hi.out,HP.out,decide_eq_true h4,hd];rfl,(Since.refl _).alloc _⟩
    ·have ho:decide ((k:Int)≤4)=false:=by simp;omega
     go_wp2
     go_ret
     exact⟨by rw[←hi.out,decide_eq_false h4,Bool.and_false,Bool.false_and];rfl,(Since.refl _).alloc _⟩
 rw[if_neg g28];have n28:(op==28)=false:=by simpa using g28
 clear h;by_cases g29:op=29
 ·subst g29;rw[if_pos rfl];clear g28
  cases hd:(d==0)
  ·go_enter Tryz.func57,Tryz.ntmps57
   go_wp2
   go_ret
   exact⟨rfl,(Since.refl _).alloc _⟩
  ·cases he:(e==1)
   all_goals
    go_enter Tryz.func57,Tryz.ntmps57
    go_wp2
    go_ret
    exact⟨rfl,(Since.refl _).alloc _⟩
 rw[if_neg g29];have n29:(op==29)=false:=by simpa using g29
 clear g28 g29;have W:=hid (fun w=>Xc op 1 31 w);go_enter Tryz.func57,Tryz.ntmps57
 go_wp2_with fail
 refine (W.out _).mono ?_;exact yZ
theorem KY (m:Mach) (av:Value) (k slots:Int) (w:World) (h:Zi w av m.args) (hf:Yw m) :
  Calls Tryz.prog 29 #[mv m av,.int .i64 k,.int .i64 slots] w (NumP (Yv m k slots) w):=by
 have hU:=fun w h=>ZbA m av w h
 have h6:=hid (fun w h=>J9 m av w h hf.2.2);have h7:=hid (fun w h=>ZK m av w h hf.2.2);have HT:=hid (fun w h=>Zbu m av w h hf);have HM:=hid (fun w h=>Qp m av w h hf);have HF:=hid hf;have h8:=hid (J8 m hf.2.2);have h9:=hid (Kn m);have hP:=hid (Zbt m hf.2.2);have hQ:=hid (ZbX m);have H:=hid h;clear h hf;generalize hE:Yv m k slots=E;unfold Yv at hE;generalize shapeB m=sh at *;have hr:=hid hU;clear hU
 cases sh with
 | false =>
  have HE:=hid hE;clear hE;unfold mv at hr;unfold mv;go_enter Tryz.func29,Tryz.ntmps29
  go_wp2_with fail
  refine (hr.out _ (H.out.keep ((Since.refl _).alloc _))).mono ?_;rintro e w1 ⟨rfl,hY⟩;go_wp2
  go_ret
  exact⟨by rw[←HE.out];rfl,((Since.refl _).alloc _).trans hY⟩
 | true =>
  rw[if_neg kS]at hE;by_cases hq:m.op=30∨m.op=31
  ·have hu:Y2 m=true:=by unfold Y2;rcases hq with h | h<;>simp[h]
   rw[hu]at hE;have HP:=hid hE;have hL:=hid hq;clear hE hu;have hZ:(m.op==30)=true∨((m.op==30)=false∧(m.op==31)=true):=by
    rcases hq with h|h
    ·left;simp[h]
    ·right;simp[h]
   clear hq;unfold mv at hr;unfold mv;rcases hZ with hV|⟨hV,h5⟩;all_goals
    go_enter Tryz.func29,Tryz.ntmps29
    go_wp2_with fail
    refine (hr.out _ (H.out.keep ((Since.refl _).alloc _))).mono ?_;rintro e w0 ⟨rfl,hg⟩;have hz:∀ i,w0.cell? ⟨w.heap.size,i,none⟩=_:=fun i=>hg.cell (p:=⟨w.heap.size,i,none⟩) kU
    have hO:=hid (((Since.refl w).alloc (.cells #[.int .i64 m.op,.int .i64 m.d,.int .i64 m.e,.int .i64 m.a,.int .i64 m.b,.int .i64 m.c,.int .i32 m.imm,av] 36)).trans hg);have hA:=zH (w.heap.size<w0.heap.size) (by have:=hg.size;simp at this;omega);clear hg;go_wp2
    have hT:=hid hz;clear hz;refine Zd rfl kK kK
     [Is (mv m av),Zn .i64 (takes m),Is (mv m av),Zn .i64 (makes m),Zz (takes m) (makes m),Zn .i64 (joined [((.nilFunc:Value),takes m),(.nilFunc,makes m)]),Zn .i64 (joined [((.nilFunc:Value),takes m),(.nilFunc,makes m)])]
     jS ⟨?_,?_,?_,?_,?_,?_,?_,trivial⟩ ?_
    all_goals
     intro vs wA hs hk;have hc:∀ i,wA.cell? ⟨w.heap.size,i,none⟩=_:=fun i=>(hs.cell (p:=⟨w.heap.size,i,none⟩) hA.out).trans (hT.out i)
     have hX:=hid hc;have hM:=hid (Nat.lt_of_lt_of_le hA.out hs.size);have hN:=hid (hO.out.trans hs);clear hs;simp only[putAll,Act.put,Zk,Zc,Ze,Is,List.setIfInBounds_toArray,List.set_cons_zero,List.set_cons_succ,Nat.reduceAdd,List.length_cons,List.length_nil]at hk ⊢;try simp only[hk]
    ·exact jK
    ·go_wp2_with fail
     refine (HT.out _ (H.out.keep hN.out)).mono ?_;exact jn
    ·exact jK
    ·go_wp2_with fail
     refine (HM.out _ (H.out.keep hN.out)).mono ?_;exact jn
    ·exact zV
    ·exact zY
    ·exact jJ
    ·clear hk;go_wp2
     clear hc;refine Zd rfl kK kK
      [Is (mv m av),Zn .i64 (takes7 m),Is (mv m av),Zn .i64 (makes7 m),Zz (takes7 m) (makes7 m),Zn .i64 (joined [((.nilFunc:Value),takes7 m),(.nilFunc,makes7 m)]),Zn .i64 (joined [((.nilFunc:Value),takes7 m),(.nilFunc,makes7 m)])]
      jS ⟨?_,?_,?_,?_,?_,?_,?_,trivial⟩ ?_
     all_goals
      intro vs w1 hs hk;have hc:∀ i,w1.cell? ⟨w.heap.size,i,none⟩=_:=fun i=>(hs.cell (p:=⟨w.heap.size,i,none⟩) hM.out).trans (hX.out i)
      have hC:=hid hc;have hW:=hid (Nat.lt_of_lt_of_le hM.out hs.size);have hd:=hid (hN.out.trans hs);clear hs;simp only[putAll,Act.put,Zk,Zc,Ze,Is,List.setIfInBounds_toArray,List.set_cons_zero,List.set_cons_succ,Nat.reduceAdd,List.length_cons,List.length_nil]at hk ⊢;try simp only[hk]
     ·exact jK
     ·go_wp2_with fail
      refine (h6.out _ (H.out.keep hd.out)).mono ?_;exact jn
     ·exact jK
     ·go_wp2_with fail
      refine (h7.out _ (H.out.keep hd.out)).mono ?_;exact jn
     ·exact zV
     ·obtain⟨⟨v1,v2,h1⟩,_⟩:=hk;have H1:=hid h1;clear h1;go_wp2_with fail
      refine (VS _ _ _ H1.out kU (by simp[total];have:=h8.out;have:=h9.out;omega)).mono ?_;exact jn
     ·exact jJ
     ·have hx:=hk.2.2.2.2.2.2.1;rw[show joined [((.nilFunc:Value),takes7 m),(.nilFunc,makes7 m)]=regsOf m from by simp[joined,regsOf,hL.out]]at hx
      clear hk hc;obtain⟨ra,rc,hv⟩:=Zb hx;rw[hv]at hx ⊢;have hJ:=hx.len;unfold maxLen at hJ;have HX:=hid hx;clear hx hv;have hi:YC k (regsOf m)=(regsOf m).any fun r=>decide (r<0)||decide (k≤r):=rfl
      have he:=hid hi;clear hi;generalize hR:regsOf m=R at *;clear hR;go_wp2
      go_loop [37] (fun i=>∃ t:Nat,t≤R.length∧i=.int .i64 t∧∀ (j:Nat) (x:Int),j<t→R[j]? = some x→0≤x∧x<k) (fun i=>R.length-(intOf i).toNat)
      case atStart=>exact⟨0,Nat.zero_le _,rfl,fun j x hj=>by omega⟩
      case round =>
       obtain⟨t,ht,rfl,hm⟩:=hrel;have hp:=hid hm;clear hm;by_cases hl:t<R.length
       ·exact zo
       ·obtain rfl:t=R.length:=kT
        have hb:YC k R=false:=by
         exact qH
        rw[hb,if_neg kS]at HP;clear hb;have hn:∀ w2,Since w1 w2→Calls Tryz.prog 62 #[mv m av] w2 (TellsS (VP m) w2):=fun w2 _=>ZaC m av w2 HF.out.1 HF.out.2.1
        generalize hI:VP m=I at *;have hS:=hid hn;clear hn hI;have h4:=hC.out;have Ha:m.imm≤2147483647:=HF.out.2.1;by_cases hK:m.imm<0
        ·go_wp2
         go_ret
         exact⟨by rw[←HP.out,decide_eq_true hK];rfl,hd.out⟩
        ·have Hb:decide (m.imm<0)=false:=decide_eq_false hK;by_cases hD:slots≤m.imm
         ·have h0:decide (slots≤m.imm)=true:=decide_eq_true hD;go_wp2
          go_ret
          exact⟨by rw[←HP.out,decide_eq_true hD,Bool.or_true];rfl,hd.out⟩
         ·rw[decide_eq_false hK,decide_eq_false hD]at HP;have h0:decide (slots≤m.imm)=false:=decide_eq_false hD;exact qD
  ·have hu:Y2 m=false:=by unfold Y2;simp;omega
   rw[hu,Bool.false_and]at hE;have HP:=hid hE;have hL:=hid hq;have hV:=zN m.op 30;have h5:=zN m.op 31;clear hE hu hq;unfold mv at hr;unfold mv;go_enter Tryz.func29,Tryz.ntmps29
   go_wp2_with fail
   refine (hr.out _ (H.out.keep ((Since.refl _).alloc _))).mono ?_;rintro e w0 ⟨rfl,hg⟩;have hz:∀ i,w0.cell? ⟨w.heap.size,i,none⟩=_:=fun i=>hg.cell (p:=⟨w.heap.size,i,none⟩) kU
   have hO:=hid (((Since.refl w).alloc (.cells #[.int .i64 m.op,.int .i64 m.d,.int .i64 m.e,.int .i64 m.a,.int .i64 m.b,.int .i64 m.c,.int .i32 m.imm,av] 36)).trans hg);have hA:=zH (w.heap.size<w0.heap.size) (by have:=hg.size;simp at this;omega);clear hg;go_wp2
   have hT:=hid hz;clear hz;refine Zd rfl kK kK
    [Is (mv m av),Zn .i64 (takes m),Is (mv m av),Zn .i64 (makes m),Zz (takes m) (makes m),Zn .i64 (joined [((.nilFunc:Value),takes m),(.nilFunc,makes m)]),Zn .i64 (joined [((.nilFunc:Value),takes m),(.nilFunc,makes m)])]
    jS ⟨?_,?_,?_,?_,?_,?_,?_,trivial⟩ ?_
   all_goals
    intro vs w1 hs hk;have hc:∀ i,w1.cell? ⟨w.heap.size,i,none⟩=_:=fun i=>(hs.cell (p:=⟨w.heap.size,i,none⟩) hA.out).trans (hT.out i)
    have hC:=hid hc;have hW:=hid (Nat.lt_of_lt_of_le hA.out hs.size);have hd:=hid (hO.out.trans hs);clear hs;simp only[putAll,Act.put,Zk,Zc,Ze,Is,List.setIfInBounds_toArray,List.set_cons_zero,List.set_cons_succ,Nat.reduceAdd,List.length_cons,List.length_nil]at hk ⊢;try simp only[hk]
   ·exact jK
   ·go_wp2_with fail
    refine (HT.out _ (H.out.keep hd.out)).mono ?_;exact jn
   ·exact jK
   ·go_wp2_with fail
    refine (HM.out _ (H.out.keep hd.out)).mono ?_;exact jn
   ·exact zV
   ·exact zY
   ·exact jJ
   ·have hx:=hk.2.2.2.2.2.2.1;rw[show joined [((.nilFunc:Value),takes m),(.nilFunc,makes m)]=regsOf m from by simp[joined,regsOf,hL.out]]at hx
    clear hk hc;obtain⟨ra,rc,hv⟩:=Zb hx;rw[hv]at hx ⊢;have hJ:=hx.len;unfold maxLen at hJ;have HX:=hid hx;clear hx hv;have hi:YC k (regsOf m)=(regsOf m).any fun r=>decide (r<0)||decide (k≤r):=rfl
    have he:=hid hi;clear hi;generalize hR:regsOf m=R at *;clear hR;go_wp2
    go_loop [37] (fun i=>∃ t:Nat,t≤R.length∧i=.int .i64 t∧∀ (j:Nat) (x:Int),j<t→R[j]? = some x→0≤x∧x<k) (fun i=>R.length-(intOf i).toNat)
    case atStart=>exact⟨0,Nat.zero_le _,rfl,fun j x hj=>by omega⟩
    case round =>
     obtain⟨t,ht,rfl,hm⟩:=hrel;have hp:=hid hm;clear hm;by_cases hl:t<R.length
     ·exact zo
     ·obtain rfl:t=R.length:=kT
      have hb:YC k R=false:=by
       exact qH
      rw[hb,if_neg kS]at HP;clear hb;have hn:∀ w2,Since w1 w2→Calls Tryz.prog 62 #[mv m av] w2 (TellsS (VP m) w2):=fun w2 _=>ZaC m av w2 HF.out.1 HF.out.2.1
      generalize hI:VP m=I at *;have hS:=hid hn;clear hn hI;have h4:=hC.out;exact qD
structure Turn (S:Nat→Prop) (w w':World):Prop where
 os:w'.os=w.os
 tape:w'.tape=w.tape
 output:w'.output=w.output
 size:w.heap.size≤w'.heap.size
 block:∀ k,k<w.heap.size→¬ S k→w'.heap[k]? = w.heap[k]?
theorem Turn.refl (S:Nat→Prop) (w:World):Turn S w w:=⟨rfl,rfl,rfl,Nat.le_refl _,fun _ _ _=>rfl⟩
theorem Turn.trans {S : Nat→Prop} {a b c:World} (h:Turn S a b) (k:Turn S b c):Turn S a c:=
 ⟨k.os.trans h.os,k.tape.trans h.tape,k.output.trans h.output,Nat.le_trans h.size k.size,fun i hi hn=>(k.block i (Nat.lt_of_lt_of_le hi h.size) hn).trans (h.block i hi hn)⟩
theorem Turn.mono {S S':Nat→Prop} {a b:World} (h:Turn S a b) (hs:∀ k,k<a.heap.size→S k→S' k):Turn S' a b:=
 ⟨h.os,h.tape,h.output,h.size,fun i hi hn=>h.block i hi fun ha=>hn (hs i hi ha)⟩
theorem Turn.since {S : Nat→Prop} {a b:World} (h:Since a b):Turn S a b:=⟨h.os,h.tape,h.output,h.size,fun i hi _=>Below.block h i hi⟩
theorem Turn.setCell {S : Nat→Prop} {a b:World} (h:Turn S a b) {p : Addr} (hp:S p.block) (v:Value):Turn S a (b.setCell p v):=
 ⟨h.os,h.tape,h.output,by simpa [World.setCell]using h.size,fun i hi hn=>by
  rw[Below.heap_setCell _ _ _ _ (fun e=>hn (by rw[e];exact hp))];exact h.block i hi hn⟩
theorem Turn.alloc {S : Nat→Prop} {a b:World} (h:Turn S a b) (o:Obj):Turn S a (b.alloc o):=h.trans (Turn.since ((Since.refl b).alloc o))
theorem Turn.toSince {S : Nat→Prop} {w0 a b:World} (h:Turn S a b) (h0:Since w0 a) (hs:∀ k,k<w0.heap.size→¬ S k):Since w0 b:=
 ⟨h.os.trans h0.os,h.tape.trans h0.tape,h.output.trans h0.output,Nat.le_trans h0.size h.size,fun i hi=>(h.block i (Nat.lt_of_lt_of_le hi h0.size) (hs i hi)).trans (h0.block i hi)⟩
theorem Turn.cell {S : Nat→Prop} {a b:World} (h:Turn S a b) {p : Addr} (hp:p.block<a.heap.size) (hn:¬ S p.block):b.cell? p=a.cell? p:=World.cell?_of_block (h.block p.block hp hn)
def WAt (w:World) (b:Nat) (R:List Int) (rest:List Value) (T:TypeId):Prop:=w.heap[b]? = some (.cells (R.map (Value.int .i32)++rest).toArray T (0,0))
theorem WAt.lt {w : World} {b : Nat} {R : List Int} {rest:List Value} {T : TypeId} (h:WAt w b R rest T):b<w.heap.size:=(Array.getElem?_eq_some_iff.1 h).1
theorem WAt.cell {w : World} {b : Nat} {R : List Int} {rest:List Value} {T : TypeId} (h:WAt w b R rest T) {i : Nat} (hi:i<R.length):w.cell? ⟨b,i,none⟩=some (.int .i32 (R.getD i 0)):=by
 have e:(R.map (Value.int .i32)++rest)[i]? = some (.int .i32 (R.getD i 0)):=by
  rw[List.getElem?_append_left kH,List.getElem?_map,List.getD_eq_getElem?_getD,List.getElem?_eq_getElem hi];rfl
 simp only[World.cell?,show w.heap[b]? = _ from h]
 simpa using e
theorem WAt.frozen {w : World} {b : Nat} {R : List Int} {rest:List Value} {T : TypeId} (h:WAt w b R rest T) (i:Nat):w.frozen? ⟨b,i,none⟩=false:=by
 simp[World.frozen?,show w.heap[b]? = _ from h]
theorem WAt.set {w : World} {b : Nat} {R : List Int} {rest:List Value} {T : TypeId} (h:WAt w b R rest T) {i : Nat} (hi:i<R.length) (v:Int):WAt (w.setCell ⟨b,i,none⟩ (.int .i32 v)) b (R.set i v) rest T:=by
 unfold WAt at h ⊢;have e:(R.set i v).map (Value.int .i32)++rest=(R.map (Value.int .i32)++rest).set i (.int .i32 v):=by
  rw[List.set_append_left _ _ kH,List.map_set]
 rw[e];exact jD
theorem WAt.turn {S : Nat→Prop} {w w':World} {b : Nat} {R : List Int} {rest:List Value} {T : TypeId} (h:WAt w b R rest T) (t:Turn S w w') (hn:¬ S b):WAt w' b R rest T:=(t.block b h.lt hn).trans h
theorem WAt.keep {w w':World} {b : Nat} {R : List Int} {rest:List Value} {T : TypeId} (h:WAt w b R rest T) (s:Since w w'):WAt w' b R rest T:=(Below.block s b h.lt).trans h
def MemIs (w:World) (v:Value) (M:List Int):Prop:=
 (v=.slice none 0 0∧M=[])∨∃ b cap rest T,v=.slice (some ⟨b,0,none⟩) M.length cap∧WAt w b M rest T∧M.length≤1000000
theorem MemIs.shape {w : World} {v : Value} {M : List Int} (h:MemIs w v M):∃ a cap,v=.slice a M.length cap∧M.length≤1000000:=by
 rcases h with ⟨h1,h2⟩|⟨b,cap,rest,T,h1,_,h3⟩
 ·subst h2;exact⟨none,0,h1,by simp⟩
 ·exact⟨_,cap,h1,h3⟩
theorem MemIs.turn {S : Nat→Prop} {w w':World} {v : Value} {M : List Int} (h:MemIs w v M) (t:Turn S w w') (hn:∀ q,v.ownBlock=some q→¬ S q):MemIs w' v M:=by
 rcases h with h|⟨b,cap,rest,T,h1,h2,h3⟩
 ·exact .inl h
 ·exact .inr ⟨b,cap,rest,T,h1,h2.turn t (hn b (by rw[h1];rfl)),h3⟩
theorem MemIs.keep {w w':World} {v : Value} {M : List Int} (h:MemIs w v M) (s:Since w w'):MemIs w' v M:=h.turn (S:=fun _=>False) (Turn.since s) fun _ _=>id
theorem MemIs.lt {w : World} {v : Value} {M : List Int} (h:MemIs w v M) {q : Nat} (hq:v.ownBlock=some q):q<w.heap.size:=by
 rcases h with ⟨h1,_⟩|⟨b,cap,rest,T,h1,h2,_⟩
 ·rw[h1]at hq;cases hq
 ·rw[h1]at hq;cases hq;exact h2.lt
theorem Zt.turn {S : Nat→Prop} {k : IntKind} {w w':World} {v : Value} {l : List Int} (h:Zt k w v l) (t:Turn S w w') (hn:∀ q,v.ownBlock=some q→¬ S q):Zt k w' v l:=by
 rcases h with h|⟨b,off,cap,h1,h2,h3,h4,h5⟩
 ·exact .inl h
 ·exact .inr ⟨b,off,cap,h1,h2,h3,Nat.lt_of_lt_of_le h4 t.size,fun j n hj=>by rw[t.cell (p:=⟨b,off+j,none⟩) h4 (hn b (by rw[h1];rfl))];exact h5 j n hj⟩
theorem MemIs.at {w : World} {a : Option Addr} {n cap:Nat} {M : List Int} (h:MemIs w (.slice a n cap) M) {i : Nat} (hi:i<M.length):∃ b rest T,a=some ⟨b,0,none⟩∧WAt w b M rest T:=by
 rcases h with ⟨_,h2⟩|⟨b,cap',rest,T,h1,h2,_⟩
 ·subst h2;simp at hi
 ·cases h1;exact⟨b,rest,T,rfl,h2⟩
theorem MemIs.set {w : World} {b cap:Nat} {M : List Int} {rest:List Value} {T : TypeId} (h:WAt w b M rest T) (hm:M.length≤1000000) {i : Nat} (hi:i<M.length) (v:Int):MemIs (w.setCell ⟨b,i,none⟩ (.int .i32 v)) (.slice (some ⟨b,0,none⟩) M.length cap) (M.set i v):=
 .inr ⟨b,cap,rest,T,by simp,h.set hi v,by simpa using hm⟩
def ZfA (x:Int) (w:World) (e:Ending) (w':World):Prop:=e=.returned (.int .i32 x)∧w=w'
theorem ZaD {R : List Int} {i : Nat} (h:i<R.length):getR R (i:Int)=R.getD i 0:=by unfold getR;rw[if_pos kT];simp
theorem Zae {R : List Int} {r : Int} (h:r<0∨(R.length:Int)≤r):getR R r=0:=by unfold getR;rw[if_neg kT]
theorem Zv (R:List Int) (b cap:Nat) (rest:List Value) (T:TypeId) (r:Int) (w:World) (h:WAt w b R rest T) (hl:R.length≤1000000) :
  Calls Tryz.prog 90 #[.slice (some ⟨b,0,none⟩) R.length cap,.int .i64 r] w (ZfA (getR R r) w):=by
 by_cases h0:r<0
 ·rw[Zae (.inl h0)];exact yP
 ·by_cases h1:(R.length:Int)≤r
  ·rw[Zae (.inr h1)];have hd:decide (r<0)=false:=decide_eq_false h0;exact yP
  ·obtain⟨i,rfl⟩:=Int.eq_ofNat_of_zero_le (Int.not_lt.1 h0);have hi:i<R.length:=kT
   have hc:=h.cell hi;rw[ZaD hi];have hd:decide ((i:Int)<0)=false:=decide_eq_false h0;have ha:decide ((R.length:Int)≤(i:Int))=false:=decide_eq_false h1;clear h0 h1 h;generalize R.getD i 0=x at *;exact yP
def Y9 (w:World) (b:Nat) (R:List Int) (r v:Int):World:=if 0≤r∧r<(R.length:Int) then w.setCell ⟨b,r.toNat,none⟩ (.int .i32 v) else w
theorem YO {w : World} {b : Nat} {R : List Int} {rest:List Value} {T : TypeId} (h:WAt w b R rest T) (r v:Int):WAt (Y9 w b R r v) b (setR R r v) rest T:=by
 unfold Y9 setR;split
 ·exact h.set kT v
 ·exact h
theorem ZJ {S : Nat→Prop} {w : World} {b : Nat} (hb:S b) (R:List Int) (r v:Int):Turn S w (Y9 w b R r v):=by
 unfold Y9;split
 ·exact (Turn.refl S w).setCell (p:=⟨b,r.toNat,none⟩) hb _
 ·exact Turn.refl S w
def ZfF (W:World) (e:Ending) (w':World):Prop:=e=.returned (.tuple #[])∧w'=W
theorem Z0 (R:List Int) (b cap bx:Nat) (rest:List Value) (T:TypeId) (r v:Int) (w:World) (h:WAt w b R rest T) (hl:R.length≤1000000) (hx:w.cell? ⟨bx,0,none⟩=some (.slice (some ⟨b,0,none⟩) R.length cap)) :
  Calls Tryz.prog 170 #[.int .i64 r,.int .i32 v,.pointer (some ⟨bx,0,none⟩)] w (ZfF (Y9 w b R r v)):=by
 by_cases h0:0≤r
 ·by_cases h1:r<(R.length:Int)
  ·obtain⟨i,rfl⟩:=Int.eq_ofNat_of_zero_le h0;have hi:i<R.length:=kT
   have hc:=h.cell hi;have ha:=h.frozen i;have hW:Y9 w b R i v=w.setCell ⟨b,i,none⟩ (.int .i32 v):=by unfold Y9;rw[if_pos ⟨h0,h1⟩];simp
   have HW:=hid hW;clear h0 hW h;generalize R.getD i 0=x at *;go_enter Tryz.func170,Tryz.ntmps170
   go_wp2
   go_end0
   exact⟨rfl,by rw[HW.out]⟩
  ·have hW:Y9 w b R r v=w:=by unfold Y9;rw[if_neg kT]
   have HW:=hid hW;have hd:decide (r<(R.length:Int))=false:=decide_eq_false h1;exact yp
 ·have hW:Y9 w b R r v=w:=by unfold Y9;rw[if_neg kT]
  have HW:=hid hW;have hd:decide (0≤r)=false:=decide_eq_false h0;exact yp
def VW (M:List Int) (at':Int) (w:World) (e:Ending) (w':World):Prop:=
 e=.returned (.tuple #[.int .i32 (if 0≤at'∧at' < (M.length:Int) then M.getD at'.toNat 0 else 0),.bool (decide (0≤at')&&decide (at' < (M.length:Int)))])∧w=w'
theorem WZ (M:List Int) (mv:Value) (at':Int) (w:World) (h:MemIs w mv M) (h1 : -2147483648≤at') (h2:at'≤2147483647) :
  Calls Tryz.prog 172 #[mv,.int .i32 at'] w (VW M at' w):=by
 obtain⟨a,cap,rfl,hl⟩:=h.shape;unfold VW;by_cases h0:at' < 0
 ·rw[if_neg kT,decide_eq_false (by omega:¬ 0≤at'),Bool.false_and];exact yG
 ·have hd:decide (at' < 0)=false:=decide_eq_false h0;by_cases h3:(M.length:Int)≤at'
  ·rw[if_neg kT,decide_eq_false (by omega:¬ at' < (M.length:Int)),Bool.and_false];exact yG
  ·rw[if_pos kT,decide_eq_true (by omega:0≤at'),decide_eq_true (by omega:at' < (M.length:Int))];have ha:decide ((M.length:Int)≤at')=false:=decide_eq_false h3;obtain⟨i,rfl⟩:=Int.eq_ofNat_of_zero_le (Int.not_lt.1 h0);have hi:i<M.length:=kT
   obtain⟨b,rest,T,rfl,hw⟩:=h.at hi;have hc:=hw.cell hi;clear h0 h3 h hw;rw[Int.toNat_natCast];generalize M.getD i 0=x at *;exact yG
end Go.Proofs.YtimpddecdodddaaGreat
