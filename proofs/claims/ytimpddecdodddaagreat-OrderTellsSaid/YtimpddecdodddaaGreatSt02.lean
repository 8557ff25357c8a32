import Derived.Test.YtimpddecdodddaaGreatSt01
namespace Go.Proofs.YtimpddecdodddaaGreat
open Go.Proofs.Tryz Go.RowKit Go.Lib
set_option linter.unusedVariables false
set_option maxHeartbeats 4000000
set_option maxRecDepth 100000
theorem zo {P:Prop} (h:P:=by
 obtain⟨_,hw⟩:=Zr HX.out;obtain⟨B,off,rfl,hB,hh⟩:=hw (by intro e;rw[e]at hl;simp at hl);obtain⟨x,hx⟩:∃ x,R[t]? = some x:=⟨_,List.getElem?_eq_getElem hl⟩
 have h3:=hh t x hx;have ho:=hid hx;clear hh hw hB hx;by_cases hG:x<0
 ·have hb:Yi k R=true:=by
   rw[he.out,List.any_eq_true];exact⟨x,List.mem_of_getElem? ho.out,by simp[hG]⟩
  have HB:=hid hb;clear hb;go_wp2
  go_ret
  exact⟨by rw[←HP.out,HB.out];rfl,hd.out⟩
 ·by_cases hF:k≤x
  ·have hb:Yi k R=true:=by
    rw[he.out,List.any_eq_true];exact⟨x,List.mem_of_getElem? ho.out,by simp[hF]⟩
   have HB:=hid hb;clear hb;go_wp2
   go_ret
   exact⟨by rw[←HP.out,HB.out];rfl,hd.out⟩
  ·go_wp2
   go_round
   case rel=>exact⟨t+1,by omega,by go_num,fun j y hj hy=>by
    by_cases e:j=t
    ·subst e;rw[ho.out]at hy;cases hy;omega
    ·exact hp.out j y (by omega) hy⟩
   case measure=>simp[intOf];omega):P:=h
theorem z8 {P:Prop} (h:P:=by
 obtain⟨⟨v1,v2,h1⟩,_⟩:=hk;have H1:=hid h1;clear h1;go_wp2_with fail
 refine (WX _ _ _ H1.out (by simp) (by simp[total];have:=hP.out;have:=hQ.out;omega)).mono ?_;rintro e w2 ⟨v,rfl,hv,ha⟩;go_wp2
 exact⟨_,rfl,hv,ha⟩):P:=h
theorem qm {P:Prop} (h:P:=by
 go_wp2
 go_round
 case rel=>exact⟨t+1,by omega,by go_num,fun j y hj hy=>by
  by_cases e:j=t
  ·subst e;rw[he.out]at hy;cases hy;omega
  ·exact hf.out j y (by omega) hy⟩
 case measure=>simp[intOf];omega):P:=h
theorem qA {P:Prop} (h:P:=by
 rw[if_pos (by decide)];go_enter func62,ntmps62
 go_wp2_with fail
 refine (B8.out _).mono ?_;rintro e w1 ⟨rfl,rfl⟩;go_wp2
 go_ret
 exact⟨rfl,(Since.refl _).alloc _⟩):P:=h
theorem qD {P:Prop} (h:P:=by
 rw[if_pos (by omega)];go_enter func89,ntmps89
 go_wp2
 go_ret
 exact Zk ((Since.refl _).alloc _) [a] _ (by simp) rfl (show 1≤maxLen from by decide) rfl):P:=h
theorem qQ {P:Prop} (h:P:=by
 go_wp2_with fail
 refine (hS.out _ (Since.refl _)).mono ?_;rintro e w3 ⟨rfl,hH⟩
 cases I<;>(go_wp2;go_ret;exact⟨by rw[←HP.out];rfl,hd.out.trans hH⟩)):P:=h
theorem yp {P:Prop} (h:P:=by rw[he.out,List.any_eq_false];intro x hx;obtain⟨j,hj⟩:=List.getElem?_of_mem hx;have:=hp.out j x (List.getElem?_eq_some_iff.1 hj).1 hj;simp;omega):P:=h
theorem yT {P:Prop} (h:P:=by
 rw[if_neg (by omega)];go_enter func89,ntmps89
 go_wp2
 go_ret
 exact ZP ((Since.refl _).alloc _)):P:=h
theorem yU {P:Prop} (h:P:=by
 rw[decide_eq_false h1,Bool.false_and];go_enter func88,ntmps88
 go_wp2
 go_ret
 exact⟨rfl,rfl⟩):P:=h
theorem jt {P:Prop} (h:P:=by
 rintro e1 w1 ⟨rfl,rfl⟩;go_wp2
 go_ret
 exact⟨by rw[←HP.out];rfl,(Since.refl _).alloc _⟩):P:=h
theorem jD {P:Prop} (h:P:=by
 have HB:=hid hb;clear hb;go_wp2
 go_ret
 exact⟨by rw[←HP.out,HB.out];rfl,HS.out⟩):P:=h
theorem jG {P:Prop} (h:P:=by
 go_enter func40,ntmps40
 go_wp2
 go_ret
 exact⟨rfl,rfl⟩):P:=h
theorem jN {P:Prop} (h:P:=by
 go_enter func63,ntmps63
 go_wp2
 go_ret2
 exact⟨rfl,rfl⟩):P:=h
theorem jO {P:Prop} (h:P:=by
 go_enter func88,ntmps88
 go_wp2
 go_ret
 exact⟨rfl,rfl⟩):P:=h
theorem jQ {P:Prop} (h:P:=by
 rintro e w1 ⟨rfl,rfl⟩;go_wp2
 go_ret
 exact⟨rfl,(Since.refl _).alloc _⟩):P:=h
theorem kO {P:Prop} (h:P:=by repeat (first | exact trivial | refine⟨Is.stable _,?_⟩ | refine⟨Zo.stable _ _,?_⟩ | refine⟨XV.stable _ _,?_⟩)):P:=h
def NumP (x:Int) (w:World) (e:Ending) (w':World):Prop:=e=.returned (.int .i64 x)∧Since w w'
def Za0 (p:Bool) (w:World) (e:Ending) (w':World):Prop:=e=.returned (.bool p)∧w=w'
theorem Xd (n l h:Int) (w:World):Calls prog 40 #[.int .i64 n,.int .i64 l,.int .i64 h] w (Za0 (decide (l≤n)&&decide (n≤h)) w):=by
 by_cases h1:l≤n
 ·by_cases h2:n≤h
  ·rw[decide_eq_true h1,decide_eq_true h2];exact jG
  ·rw[decide_eq_true h1,decide_eq_false h2];exact jG
 ·rw[decide_eq_false h1,Bool.false_and];exact jG
theorem ZeF (n:Int) (w:World) (h : -2147483648≤n) (h2:n≤2147483647):Calls prog 88 #[.int .i32 n,.int .i64 16] w (Za0 (decide (-32768≤n)&&decide (n≤32767)) w):=by
 by_cases h1 : -32768≤n
 ·by_cases h2:n<32768
  ·rw[decide_eq_true h1,decide_eq_true (show n≤32767 by omega)];exact jO
  ·rw[decide_eq_true h1,decide_eq_false (show ¬ n≤32767 by omega)];exact jO
 ·exact yU
theorem Zfc (n:Int) (w:World) (h : -2147483648≤n) (h2:n≤2147483647):Calls prog 88 #[.int .i32 n,.int .i64 8] w (Za0 (decide (-128≤n)&&decide (n≤127)) w):=by
 by_cases h1 : -128≤n
 ·by_cases h2:n<128
  ·rw[decide_eq_true h1,decide_eq_true (show n≤127 by omega)];exact jO
  ·rw[decide_eq_true h1,decide_eq_false (show ¬ n≤127 by omega)];exact jO
 ·exact yU
theorem Zbu (m:Mach) (av:Value) (w:World) (h : -2147483648≤m.imm) (h2:m.imm≤2147483647):Calls prog 62 #[mv m av] w (ZD (Yh m) w):=by
 obtain⟨op,d,e,a,b,c,imm,args⟩:=m;dsimp only at h h2;unfold mv Yh;dsimp only;have B16:=hid (fun w=>ZeF imm w h h2);have B8:=hid (fun w=>Zfc imm w h h2);have W1:=hid (fun w=>Xd imm 0 31 w);have W2:=hid (fun w=>Xd imm 0 255 w);by_cases g3:op=3
 ·subst g3;rw[if_pos rfl];go_enter func62,ntmps62
  go_wp2_with fail
  refine (B16.out _).mono ?_;exact jQ
 rw[if_neg g3];by_cases g18:op=18
 ·subst g18;exact qA
 by_cases g19:op=19
 ·subst g19;exact qA
 rw[if_neg zaK];by_cases g20:op=20∨op=21∨op=22
 ·rw[if_pos g20];rcases g20 with rfl|rfl|rfl;all_goals
   go_enter func62,ntmps62
   go_wp2_with fail
   refine (W1.out _).mono ?_;rintro e w1 ⟨rfl,rfl⟩;go_wp2
   go_ret
   exact⟨rfl,(Since.refl _).alloc _⟩
 rw[if_neg g20];by_cases g24:op=24∨op=26
 ·rw[if_pos g24];rcases g24 with rfl|rfl;all_goals
   go_enter func62,ntmps62
   go_wp2_with fail
   refine (W2.out _).mono ?_;rintro e w1 ⟨rfl,rfl⟩;go_wp2
   go_ret
   exact⟨rfl,(Since.refl _).alloc _⟩
 rw[if_neg g24];have n3:(op==3)=false:=by simpa using g3
 have n18:(op==18)=false:=by simpa using g18
 have n19:(op==19)=false:=by simpa using g19
 have n20:=zN op 20;have n21:=zN op 21;have n22:=zN op 22;have n24:=zN op 24;have n26:=zN op 26;clear g3 g18 g19 g20 g24;go_enter func62,ntmps62
 go_wp2
 exact ku
theorem Wy:∀ (l:List Int) (n:Nat),YX l n=true↔∀ (j:Nat) (x:Int),l[j]? = some x→x=((n+j:Nat):Int)
 | [],n=>by simp[YX]
 | r::l,n=>by
  unfold YX
  rw[Bool.and_eq_true,beq_iff_eq,Wy l (n+1)]
  constructor
  ·rintro⟨h1,h2⟩ j x hj
   cases j with
   | zero=>simp at hj;rw[←hj,h1];simp
   | succ j=>have:=h2 j x (by simpa using hj);rw[this];congr 1;omega
  ·intro h
   refine⟨by have:=h 0 r rfl;simpa using this,fun j x hj=>?_⟩
   have:=h (j+1) x (by simpa using hj)
   rw[this];congr 1;omega
theorem KJ {l : List Int} {k : Nat} {x : Int} (hx:l[k]? = some x) (ha:x≠(k:Int)):YX l 0=false:=by
 cases h:YX l 0 with
 | false=>rfl
 | true=>exact absurd (by have:=(Wy l 0).1 h k x hx;simpa using this) ha
theorem Zcz (m:Mach) (av:Value) (w:World) (h:Zd w av m.args):Calls prog 57 #[mv m av] w (ZD (shapeB m) w):=by
 obtain⟨ad,cap,rfl⟩:=Zc h;have hg:=h.len;unfold maxLen at hg;obtain⟨op,d,e,a,b,c,imm,args⟩:=m;dsimp only at h hg;unfold mv shapeB;dsimp only;by_cases g28:op=28
 ·subst g28;rw[if_pos rfl];have H:=hid h;clear h;generalize hn:args.length=n at *;have HN:=hid hn;clear hn;generalize hP:(YX args 0&&decide (n≤4)&&d==0)=P;have hi:=hid hP;clear hP;go_enter func57,ntmps57
  go_wp2
  go_loop [12] (fun i=>∃ k:Nat,k≤n∧i=.int .i64 k∧∀ (j:Nat) (x:Int),j<k→args[j]? = some x→x=(j:Int)) (fun i=>n-(intOf i).toNat)
  case atStart=>exact⟨0,Nat.zero_le _,rfl,fun j x hj=>by omega⟩
  case round =>
   obtain⟨k,hk,rfl,hh⟩:=hrel;have hl:=hid hh;clear hh;by_cases hs:k<n
   ·obtain⟨_,hc⟩:=Zr (HN.out ▸ H.out);obtain⟨B,off,rfl,hB,hf⟩:=hc (by intro e;have:=HN.out;rw[e]at this;simp at this;omega);obtain⟨x,hx⟩:∃ x,args[k]? = some x:=⟨_,List.getElem?_eq_getElem (by have:=HN.out;omega)⟩
    have ht:=(((Since.refl w).alloc (.cells #[.int .i64 28,.int .i64 d,.int .i64 e,.int .i64 a,.int .i64 b,.int .i64 c,.int .i32 imm,.slice (some ⟨B,off,none⟩) n cap] 36)).cell (p:=⟨B,off+k,none⟩) hB).trans (hf k x hx);have HX:=hid hx;clear hf hc hB hx;by_cases ha:x=(k:Int)
    ·have hb:(x != (k:Int))=false:=by simp[ha]
     have hq:=hid ha;clear ha;go_wp2
     go_round
     case rel=>exact⟨k+1,zaK,by go_num,fun j y hj hy=>by
      by_cases e:j=k
      ·subst e;rw[HX.out]at hy;cases hy;exact hq.out
      ·exact hl.out j y zaK hy⟩
     case measure=>simp[intOf];omega
    ·have hb:(x != (k:Int))=true:=by simpa using ha
     have hm:=KJ HX.out ha;have hr:=hid hm;clear hm ha;go_wp2
     go_ret
     exact⟨by rw[←hi.out,hr.out];rfl,(Since.refl _).alloc _⟩
   ·obtain rfl:k=n:=zaK
    have hp:YX args 0=true:=(Wy args 0).2 fun j x hj=>by
     have:=hl.out j x (by have:=(List.getElem?_eq_some_iff.1 hj).1;have:=HN.out;omega) hj
     simpa using this
    have HP:=hid hp;clear hp;by_cases h4:k≤4
    ·have ho:decide ((k:Int)≤4)=true:=by simp;omega
     cases hd:(d==0)
     all_goals
      go_wp2
      go_ret
      exact⟨by rw[←hi.out,HP.out,decide_eq_true h4,hd];rfl,(Since.refl _).alloc _⟩
    ·have ho:decide ((k:Int)≤4)=false:=by simp;omega
     go_wp2
     go_ret
     exact⟨by rw[←hi.out,decide_eq_false h4,Bool.and_false,Bool.false_and];rfl,(Since.refl _).alloc _⟩
 rw[if_neg g28];have n28:(op==28)=false:=by simpa using g28
 clear h;by_cases g29:op=29
 ·subst g29;rw[if_pos rfl];clear g28
  cases hd:(d==0)
  ·go_enter func57,ntmps57
   go_wp2
   exact ku
  ·cases he:(e==1)
   all_goals
    go_enter func57,ntmps57
    go_wp2
    go_ret
    exact⟨rfl,(Since.refl _).alloc _⟩
 rw[if_neg g29];have n29:(op==29)=false:=by simpa using g29
 clear g28 g29;have W:=hid (fun w=>Xd op 1 31 w);go_enter func57,ntmps57
 go_wp2_with fail
 refine (W.out _).mono ?_;exact jQ
theorem Zez (m:Mach) (av:Value) (k slots:Int) (w:World) (h:Zd w av m.args) (hf:Xt m) :
  Calls prog 29 #[mv m av,.int .i64 k,.int .i64 slots] w (NumP (Y9 m k slots) w):=by
 have hU:=fun w h=>Zcz m av w h
 have h6:=hid (fun w h=>Kt m av w h hf.2.2);have h7:=hid (fun w h=>KO m av w h hf.2.2);have HT:=hid (fun w h=>Je m av w h hf);have HM:=hid (fun w h=>QS m av w h hf);have HF:=hid hf;have h8:=hid (Ks m hf.2.2);have h9:=hid (KM m);have hP:=hid (Jc m hf.2.2);have hQ:=hid (Wj m);have H:=hid h;clear h hf;generalize hE:Y9 m k slots=E;unfold Y9 at hE;generalize shapeB m=sh at *;have hr:=hid hU;clear hU
 cases sh with
 | false =>
  have HE:=hid hE;clear hE;unfold mv at hr;unfold mv;go_enter func29,ntmps29
  go_wp2_with fail
  refine (hr.out _ (H.out.keep ((Since.refl _).alloc _))).mono ?_;rintro e w1 ⟨rfl,hY⟩;go_wp2
  go_ret
  exact⟨by rw[←HE.out];rfl,((Since.refl _).alloc _).trans hY⟩
 | true =>
  rw[if_neg zaJ]at hE;by_cases hq:m.op=30∨m.op=31
  ·have hu:ZM m=true:=by unfold ZM;rcases hq with h | h<;>simp[h]
   rw[hu]at hE;have HP:=hid hE;have hL:=hid hq;clear hE hu;have hZ:(m.op==30)=true∨((m.op==30)=false∧(m.op==31)=true):=by
    rcases hq with h|h
    ·left;simp[h]
    ·right;simp[h]
   clear hq;unfold mv at hr;unfold mv;rcases hZ with hV|⟨hV,h5⟩;all_goals
    go_enter func29,ntmps29
    go_wp2_with fail
    refine (hr.out _ (H.out.keep ((Since.refl _).alloc _))).mono ?_;rintro e w0 ⟨rfl,hg⟩;have hz:∀ i,w0.cell? ⟨w.heap.size,i,none⟩=_:=fun i=>hg.cell (p:=⟨w.heap.size,i,none⟩) zaL
    have hO:=hid (((Since.refl w).alloc (.cells #[.int .i64 m.op,.int .i64 m.d,.int .i64 m.e,.int .i64 m.a,.int .i64 m.b,.int .i64 m.c,.int .i32 m.imm,av] 36)).trans hg);have hA:=zH (w.heap.size<w0.heap.size) (by have:=hg.size;simp at this;omega);clear hg;go_wp2
    have hT:=hid hz;clear hz;refine Zu rfl zaC zaC
     [Is (mv m av),Zo .i64 (takes m),Is (mv m av),Zo .i64 (makes m),XV (takes m) (makes m),Zo .i64 (joined [((.nilFunc:Value),takes m),(.nilFunc,makes m)]),Zo .i64 (joined [((.nilFunc:Value),takes m),(.nilFunc,makes m)])]
     kO ⟨?_,?_,?_,?_,?_,?_,?_,trivial⟩ ?_
    all_goals
     intro vs wA hs hk;have hc:∀ i,wA.cell? ⟨w.heap.size,i,none⟩=_:=fun i=>(hs.cell (p:=⟨w.heap.size,i,none⟩) hA.out).trans (hT.out i)
     have hX:=hid hc;have hM:=hid (Nat.lt_of_lt_of_le hA.out hs.size);have hN:=hid (hO.out.trans hs);clear hs;revert hk;refine zs2 ?_;intro hk
    ·exact kH
    ·go_wp2_with fail
     refine (HT.out _ (H.out.keep hN.out)).mono ?_;exact j4
    ·exact kH
    ·go_wp2_with fail
     refine (HM.out _ (H.out.keep hN.out)).mono ?_;exact j4
    ·exact zZ
    ·exact z8
    ·exact kG
    ·clear hk;go_wp2
     clear hc;refine Zu rfl zaC zaC
      [Is (mv m av),Zo .i64 (takes7 m),Is (mv m av),Zo .i64 (makes7 m),XV (takes7 m) (makes7 m),Zo .i64 (joined [((.nilFunc:Value),takes7 m),(.nilFunc,makes7 m)]),Zo .i64 (joined [((.nilFunc:Value),takes7 m),(.nilFunc,makes7 m)])]
      kO ⟨?_,?_,?_,?_,?_,?_,?_,trivial⟩ ?_
     all_goals
      intro vs w1 hs hk;have hc:∀ i,w1.cell? ⟨w.heap.size,i,none⟩=_:=fun i=>(hs.cell (p:=⟨w.heap.size,i,none⟩) hM.out).trans (hX.out i)
      have hC:=hid hc;have hW:=hid (Nat.lt_of_lt_of_le hM.out hs.size);have hd:=hid (hN.out.trans hs);clear hs;revert hk;refine zs2 ?_;intro hk
     ·exact kH
     ·go_wp2_with fail
      refine (h6.out _ (H.out.keep hd.out)).mono ?_;exact j4
     ·exact kH
     ·go_wp2_with fail
      refine (h7.out _ (H.out.keep hd.out)).mono ?_;exact j4
     ·exact zZ
     ·obtain⟨⟨v1,v2,h1⟩,_⟩:=hk;have H1:=hid h1;clear h1;go_wp2_with fail
      refine (WX _ _ _ H1.out zaL (by simp[total];have:=h8.out;have:=h9.out;omega)).mono ?_;exact j4
     ·exact kG
     ·have hx:=hk.2.2.2.2.2.2.1;rw[show joined [((.nilFunc:Value),takes7 m),(.nilFunc,makes7 m)]=Yg m from by simp[joined,Yg,hL.out]]at hx
      clear hk hc;obtain⟨ra,rc,hv⟩:=Zc hx;rw[hv]at hx ⊢;have hJ:=hx.len;unfold maxLen at hJ;have HX:=hid hx;clear hx hv;have hi:Yi k (Yg m)=(Yg m).any fun r=>decide (r<0)||decide (k≤r):=rfl
      have he:=hid hi;clear hi;generalize hR:Yg m=R at *;clear hR;go_wp2
      go_loop [37] (fun i=>∃ t:Nat,t≤R.length∧i=.int .i64 t∧∀ (j:Nat) (x:Int),j<t→R[j]? = some x→0≤x∧x<k) (fun i=>R.length-(intOf i).toNat)
      case atStart=>exact⟨0,Nat.zero_le _,rfl,fun j x hj=>by omega⟩
      case round =>
       obtain⟨t,ht,rfl,hm⟩:=hrel;have hp:=hid hm;clear hm;by_cases hl:t<R.length
       ·exact zo
       ·obtain rfl:t=R.length:=zaK
        have hb:Yi k R=false:=by
         exact yp
        rw[hb,if_neg zaJ]at HP;clear hb;have hn:∀ w2,Since w1 w2→Calls prog 62 #[mv m av] w2 (ZD (Yh m) w2):=fun w2 _=>Zbu m av w2 HF.out.1 HF.out.2.1
        generalize hI:Yh m=I at *;have hS:=hid hn;clear hn hI;have h4:=hC.out;have Ha:m.imm≤2147483647:=HF.out.2.1;by_cases hK:m.imm<0
        ·go_wp2
         go_ret
         exact⟨by rw[←HP.out,decide_eq_true hK];rfl,hd.out⟩
        ·have Hb:decide (m.imm<0)=false:=decide_eq_false hK;by_cases hD:slots≤m.imm
         ·have h0:decide (slots≤m.imm)=true:=decide_eq_true hD;go_wp2
          go_ret
          exact⟨by rw[←HP.out,decide_eq_true hD,Bool.or_true];rfl,hd.out⟩
         ·rw[decide_eq_false hK,decide_eq_false hD]at HP;have h0:decide (slots≤m.imm)=false:=decide_eq_false hD;exact qQ
  ·have hu:ZM m=false:=by unfold ZM;simp;omega
   rw[hu,Bool.false_and]at hE;have HP:=hid hE;have hL:=hid hq;have hV:=zN m.op 30;have h5:=zN m.op 31;clear hE hu hq;unfold mv at hr;unfold mv;go_enter func29,ntmps29
   go_wp2_with fail
   refine (hr.out _ (H.out.keep ((Since.refl _).alloc _))).mono ?_;rintro e w0 ⟨rfl,hg⟩;have hz:∀ i,w0.cell? ⟨w.heap.size,i,none⟩=_:=fun i=>hg.cell (p:=⟨w.heap.size,i,none⟩) zaL
   have hO:=hid (((Since.refl w).alloc (.cells #[.int .i64 m.op,.int .i64 m.d,.int .i64 m.e,.int .i64 m.a,.int .i64 m.b,.int .i64 m.c,.int .i32 m.imm,av] 36)).trans hg);have hA:=zH (w.heap.size<w0.heap.size) (by have:=hg.size;simp at this;omega);clear hg;go_wp2
   have hT:=hid hz;clear hz;refine Zu rfl zaC zaC
    [Is (mv m av),Zo .i64 (takes m),Is (mv m av),Zo .i64 (makes m),XV (takes m) (makes m),Zo .i64 (joined [((.nilFunc:Value),takes m),(.nilFunc,makes m)]),Zo .i64 (joined [((.nilFunc:Value),takes m),(.nilFunc,makes m)])]
    kO ⟨?_,?_,?_,?_,?_,?_,?_,trivial⟩ ?_
   all_goals
    intro vs w1 hs hk;have hc:∀ i,w1.cell? ⟨w.heap.size,i,none⟩=_:=fun i=>(hs.cell (p:=⟨w.heap.size,i,none⟩) hA.out).trans (hT.out i)
    have hC:=hid hc;have hW:=hid (Nat.lt_of_lt_of_le hA.out hs.size);have hd:=hid (hO.out.trans hs);clear hs;revert hk;refine zs2 ?_;intro hk
   ·exact kH
   ·go_wp2_with fail
    refine (HT.out _ (H.out.keep hd.out)).mono ?_;exact j4
   ·exact kH
   ·go_wp2_with fail
    refine (HM.out _ (H.out.keep hd.out)).mono ?_;exact j4
   ·exact zZ
   ·exact z8
   ·exact kG
   ·have hx:=hk.2.2.2.2.2.2.1;rw[show joined [((.nilFunc:Value),takes m),(.nilFunc,makes m)]=Yg m from by simp[joined,Yg,hL.out]]at hx
    clear hk hc;obtain⟨ra,rc,hv⟩:=Zc hx;rw[hv]at hx ⊢;have hJ:=hx.len;unfold maxLen at hJ;have HX:=hid hx;clear hx hv;have hi:Yi k (Yg m)=(Yg m).any fun r=>decide (r<0)||decide (k≤r):=rfl
    have he:=hid hi;clear hi;generalize hR:Yg m=R at *;clear hR;go_wp2
    go_loop [37] (fun i=>∃ t:Nat,t≤R.length∧i=.int .i64 t∧∀ (j:Nat) (x:Int),j<t→R[j]? = some x→0≤x∧x<k) (fun i=>R.length-(intOf i).toNat)
    case atStart=>exact⟨0,Nat.zero_le _,rfl,fun j x hj=>by omega⟩
    case round =>
     obtain⟨t,ht,rfl,hm⟩:=hrel;have hp:=hid hm;clear hm;by_cases hl:t<R.length
     ·exact zo
     ·obtain rfl:t=R.length:=zaK
      have hb:Yi k R=false:=by
       exact yp
      rw[hb,if_neg zaJ]at HP;clear hb;have hn:∀ w2,Since w1 w2→Calls prog 62 #[mv m av] w2 (ZD (Yh m) w2):=fun w2 _=>Zbu m av w2 HF.out.1 HF.out.2.1
      generalize hI:Yh m=I at *;have hS:=hid hn;clear hn hI;have h4:=hC.out;exact qQ
def ev (e:ZY):Value:=.agg #[.int .i64 e.op,.int .i64 e.a,.int .i64 e.b,e.tov,.int .i32 e.imm]
theorem ZbX (e:ZY) (w:World) (ht:∃ a n c,e.tov=.slice a n c):Calls prog 89 #[ev e] w (Yo w (needs e)):=by
 obtain⟨ta,tn,tc,hb⟩:=ht;obtain⟨op,a,b,to,tov,imm⟩:=e;dsimp only at hb;subst hb;unfold ev needs;dsimp only;by_cases g2:op=2
 ·subst g2;exact qD
 by_cases g6:op=6
 ·subst g6;exact qD
 have n2:(op==2)=false:=by simpa using g2
 have n6:(op==6)=false:=by simpa using g6
 by_cases g7:op=7
 ·subst g7;by_cases ha:0≤a
  ·exact qD
  ·rw[if_neg zaK,if_neg zaK];have hd:decide (0≤a)=false:=decide_eq_false ha;go_enter func89,ntmps89
   exact kr
 rw[if_neg zaK];have n7:(op==7)=false:=by simpa using g7
 clear g2 g6 g7;by_cases h3:3≤op
 ·by_cases h5:op≤5
  ·rw[if_pos ⟨h3,h5⟩];go_enter func89,ntmps89
   go_wp2
   go_ret
   exact Zk ((Since.refl _).alloc _) [a,b] _ zaL rfl (show 2≤maxLen from by decide) rfl
  ·exact yT
 ·exact yT
theorem ZcX (e:ZY) (w:World) (ht:∃ a n c,e.tov=.slice a n c):Calls prog 64 #[ev e] w (Yo w (needs e)):=by
 have HN:=hid (fun w=>ZbX e w ht);obtain⟨ta,tn,tc,ha⟩:=ht;unfold ev at HN;unfold ev;rw[ha]at HN ⊢;clear ha;go_enter func64,ntmps64
 go_wp2_with fail
 refine (HN.out _).mono ?_;rintro e2 w1 ⟨v,rfl,hv,hs⟩;go_wp2
 exact j2
def wLo (op:Int):Int:=if op=1 then 1 else if op=6 then 2 else if op=7∨op=8 then 0 else 2
def wHi (op:Int):Int:=if op=1 then 1 else if op=6 then 65 else if op=7∨op=8 then 0 else 2
def ZfB (p q:Int) (w:World) (e:Ending) (w':World):Prop:=e=.returned (.tuple #[.int .i64 p,.int .i64 q])∧w=w'
theorem Zdq (op:Int) (w:World):Calls prog 63 #[.int .i64 op] w (ZfB (wLo op) (wHi op) w):=by
 unfold wLo wHi;by_cases g1:op=1
 ·subst g1;exact jN
 by_cases g6:op=6
 ·subst g6;exact jN
 by_cases g7:op=7
 ·subst g7;exact jN
 by_cases g8:op=8
 ·subst g8;exact jN
 have g78:¬ (op=7∨op=8):=zaK
 simp only[if_neg g1,if_neg g6,if_neg g78];clear g78;have n1:(op==1)=false:=by simpa using g1
 have n6:(op==6)=false:=by simpa using g6
 have n7:(op==7)=false:=by simpa using g7
 have n8:(op==8)=false:=by simpa using g8
 clear g1 g6 g7 g8;exact jN
theorem ZdY (e:ZY):Ya e=((decide (1≤e.op)&&decide (e.op≤8))&&(decide (wLo e.op≤(e.to.length:Int))&&decide ((e.to.length:Int)≤wHi e.op))):=by
 unfold Ya wLo wHi;rw[Bool.eq_iff_iff];by_cases g1:e.op=1
 ·simp only[if_pos g1];simp;omega
 by_cases g6:e.op=6
 ·simp only[if_neg g1,if_neg (show ¬ (2≤e.op∧e.op≤5) by omega),if_pos g6];simp;omega
 by_cases g78:e.op=7∨e.op=8
 ·simp only[if_neg g1,if_neg (show ¬ (2≤e.op∧e.op≤5) by omega),if_neg g6,if_pos g78];simp;omega
 by_cases g:2≤e.op∧e.op≤5
 ·simp only[if_neg g1,if_neg g6,if_neg g78,if_pos g];simp;omega
 ·simp only[if_neg g1,if_neg g6,if_neg g78,if_neg g];simp;omega
theorem ZcW (e:ZY):(needs e).length≤2:=by
 unfold needs;repeat' split
 all_goals simp
theorem ZeB (e:ZY) (k nb:Int) (w:World) (h:Zd w e.tov e.to) :
  Calls prog 30 #[ev e,.int .i64 k,.int .i64 nb] w (NumP (endE e k nb) w):=by
 have HN:=hid (fun w=>ZcX e w (by obtain⟨a,c,h1⟩:=Zc h;exact⟨_,_,_,h1⟩))
 have hq:=hid (fun w=>Zdq e.op w);have ha:=ZdY e;have hN:=ZcW e;obtain⟨ta,tc,ho⟩:=Zc h;have hG:=h.len;unfold maxLen at hG;have H:=hid h;clear h;generalize hE:endE e k nb=E;unfold endE at hE;have hC:ZL e k=(needs e).any fun r=>decide (r<0)||decide (k≤r)||(e.op==7&&decide (0<r)):=rfl
 have hA:Yf nb e.to=e.to.any fun t=>decide (t<1)||decide (nb≤t):=rfl
 have hn:=hid hC;have hs:=hid hA;clear hC hA;unfold ev at HN;unfold ev;rw[ho]at HN ⊢;have hK:=hid ho;clear ho;generalize wLo e.op=lo at *;generalize wHi e.op=hi at *;have hr:=hid (fun w=>Xd e.op 1 8 w);have hF:=hid (fun w=>Xd (e.to.length:Int) lo hi w)
 generalize (decide (1≤e.op)&&decide (e.op≤8))=f1 at *;generalize (decide (lo≤(e.to.length:Int))&&decide ((e.to.length:Int)≤hi))=f2 at *
 cases f1 with
 | false =>
  rw[Bool.false_and]at ha;rw[if_pos ha]at hE;have HP:=hid hE;clear ha hE;go_enter func30,ntmps30
  go_wp2_with fail
  refine (hq.out _).mono ?_;rintro e1 w1 ⟨rfl,rfl⟩;go_wp2_with fail
  refine (hr.out _).mono ?_;exact jt
 | true =>
  rw[Bool.true_and]at ha
  cases f2 with
  | false =>
   rw[if_pos ha]at hE;have HP:=hid hE;clear ha hE;go_enter func30,ntmps30
   go_wp2_with fail
   refine (hq.out _).mono ?_;rintro e1 w1 ⟨rfl,rfl⟩;go_wp2_with fail
   refine (hr.out _).mono ?_;rintro e1 w1 ⟨rfl,rfl⟩;go_wp2_with fail
   refine (hF.out _).mono ?_;exact jt
  | true =>
   rw[if_neg (by rw[ha];decide)]at hE;have HP:=hid hE;clear ha hE;go_enter func30,ntmps30
   go_wp2_with fail
   refine (hq.out _).mono ?_;rintro e1 w1 ⟨rfl,rfl⟩;go_wp2_with fail
   refine (hr.out _).mono ?_;rintro e1 w1 ⟨rfl,rfl⟩;go_wp2_with fail
   refine (hF.out _).mono ?_;rintro e1 w1 ⟨rfl,rfl⟩;go_wp2_with fail
   refine (HN.out _).mono ?_;rintro e1 w1 ⟨v,rfl,hv,hp⟩;obtain⟨ra,rc,rfl⟩:=Zc hv;have hc:∀ i,w1.cell? ⟨w.heap.size,i,none⟩=_:=fun i=>hp.cell (p:=⟨w.heap.size,i,none⟩) zaL
   have HX:=hid hv;have HS:=hid (((Since.refl w).alloc (.cells #[.int .i64 e.op,.int .i64 e.a,.int .i64 e.b,.slice ta e.to.length tc,.int .i32 e.imm] 32)).trans hp);clear hv hp;generalize needs e=R at *;go_wp2
   go_loop [35] (fun i=>∃ t:Nat,t≤R.length∧i=.int .i64 t∧∀ (j:Nat) (x:Int),j<t→R[j]? = some x→0≤x∧x<k∧¬ (e.op=7∧0<x)) (fun i=>R.length-(intOf i).toNat)
   case atStart=>exact⟨0,Nat.zero_le _,rfl,fun j x hj=>by omega⟩
   case round =>
    obtain⟨t,ht,rfl,hh⟩:=hrel;have hf:=hid hh;clear hh;by_cases hg:t<R.length
    ·obtain⟨_,hm⟩:=Zr HX.out;obtain⟨B,off,rfl,hB,hd⟩:=hm zab;obtain⟨x,hx⟩:∃ x,R[t]? = some x:=⟨_,List.getElem?_eq_getElem hg⟩
     have hJ:=hd t x hx;have he:=hid hx;clear hd hm hB hx;by_cases hl:x<0
     ·have hb:ZL e k=true:=by
       rw[hn.out,List.any_eq_true];exact⟨x,List.mem_of_getElem? he.out,by simp[hl]⟩
      exact jD
     ·have hI:decide (x<0)=false:=decide_eq_false hl;by_cases hk:k≤x
      ·have hb:ZL e k=true:=by
        rw[hn.out,List.any_eq_true];exact⟨x,List.mem_of_getElem? he.out,by simp[hk]⟩
       exact jD
      ·have hH:decide (k≤x)=false:=decide_eq_false hk
       cases h7:(e.op==7) with
       | true =>
        by_cases hu:0<x
        ·have hb:ZL e k=true:=by
          rw[hn.out,List.any_eq_true];exact⟨x,List.mem_of_getElem? he.out,by simp[h7,hu]⟩
         exact jD
        ·have hO:decide (0<x)=false:=decide_eq_false hu;exact qm
       | false =>
        have hD:¬ e.op=7:=by simpa using h7
        have H7:=hid hD;clear hD;go_wp2
        go_round
        case rel=>exact⟨t+1,zaK,by go_num,fun j y hj hy=>by
         by_cases e:j=t
         ·subst e;rw[he.out]at hy;cases hy;have:=H7.out;omega
         ·exact hf.out j y zaK hy⟩
        case measure=>simp[intOf];omega
    ·obtain rfl:t=R.length:=zaK
     have hb:ZL e k=false:=by
      rw[hn.out,List.any_eq_false];intro x hx;obtain⟨j,hj⟩:=List.getElem?_of_mem hx;have:=hf.out j x (List.getElem?_eq_some_iff.1 hj).1 hj;simp;omega
     rw[hb,if_neg zaJ]at HP;clear hb;have hw:=(hK.out ▸ H.out:Zd w (.slice ta e.to.length tc) e.to).keep HS.out;have hL:=hid hw;clear hw;go_wp2
     go_loop [59] (fun i=>∃ t:Nat,t≤e.to.length∧i=.int .i64 t∧∀ (j:Nat) (x:Int),j<t→e.to[j]? = some x→1≤x∧x<nb) (fun i=>e.to.length-(intOf i).toNat)
     case atStart=>exact⟨0,Nat.zero_le _,rfl,fun j x hj=>by omega⟩
     case round =>
      obtain⟨t,ht,rfl,hh⟩:=hrel;have hf:=hid hh;clear hh;by_cases hg:t<e.to.length
      ·obtain⟨_,hm⟩:=Zr hL.out;obtain⟨B,off,rfl,hB,hd⟩:=hm zab;obtain⟨x,hx⟩:∃ x,e.to[t]? = some x:=⟨_,List.getElem?_eq_getElem hg⟩
       have hJ:=hd t x hx;have he:=hid hx;clear hd hm hB hx;by_cases hl:x<1
       ·have hb:Yf nb e.to=true:=by
         rw[hs.out,List.any_eq_true];exact⟨x,List.mem_of_getElem? he.out,by simp[hl]⟩
        exact jD
       ·have hI:decide (x<1)=false:=decide_eq_false hl;by_cases hk:nb≤x
        ·have hb:Yf nb e.to=true:=by
          rw[hs.out,List.any_eq_true];exact⟨x,List.mem_of_getElem? he.out,by simp[hk]⟩
         exact jD
        ·have hH:decide (nb≤x)=false:=decide_eq_false hk;exact qm
      ·have hz:t=e.to.length:=zaK
       have hM:=hid hz;clear hz;have hb:Yf nb e.to=false:=by
        rw[hs.out,List.any_eq_false];intro x hx;obtain⟨j,hj⟩:=List.getElem?_of_mem hx;have:=hf.out j x (by have:=(List.getElem?_eq_some_iff.1 hj).1;have:=hM.out;omega) hj
        simp;omega
       rw[hb]at HP;clear hb;go_wp2
       go_ret
       exact⟨by rw[←HP.out];rfl,HS.out⟩
structure Zb (S:Nat→Prop) (w w':World):Prop where
 os:w'.os=w.os
 tape:w'.tape=w.tape
 output:w'.output=w.output
 size:w.heap.size≤w'.heap.size
 block:∀ k,k<w.heap.size→¬ S k→w'.heap[k]? = w.heap[k]?
theorem Zb.refl (S:Nat→Prop) (w:World):Zb S w w:=⟨rfl,rfl,rfl,Nat.le_refl _,fun _ _ _=>rfl⟩
theorem Zb.trans {S : Nat→Prop} {a b c:World} (h:Zb S a b) (k:Zb S b c):Zb S a c:=
 ⟨k.os.trans h.os,k.tape.trans h.tape,k.output.trans h.output,Nat.le_trans h.size k.size,fun i hi hn=>(k.block i (Nat.lt_of_lt_of_le hi h.size) hn).trans (h.block i hi hn)⟩
theorem Zb.mono {S S':Nat→Prop} {a b:World} (h:Zb S a b) (hs:∀ k,k<a.heap.size→S k→S' k):Zb S' a b:=
 ⟨h.os,h.tape,h.output,h.size,fun i hi hn=>h.block i hi fun ha=>hn (hs i hi ha)⟩
theorem Zb.since {S : Nat→Prop} {a b:World} (h:Since a b):Zb S a b:=⟨h.os,h.tape,h.output,h.size,fun i hi _=>Below.block h i hi⟩
theorem Zb.setCell {S : Nat→Prop} {a b:World} (h:Zb S a b) {p : Addr} (hp:S p.block) (v:Value):Zb S a (b.setCell p v):=
 ⟨h.os,h.tape,h.output,by simpa [World.setCell]using h.size,fun i hi hn=>by
  rw[Below.heap_setCell _ _ _ _ (fun e=>hn (by rw[e];exact hp))];exact h.block i hi hn⟩
theorem Zb.alloc {S : Nat→Prop} {a b:World} (h:Zb S a b) (o:Obj):Zb S a (b.alloc o):=h.trans (Zb.since ((Since.refl b).alloc o))
theorem Zb.toSince {S : Nat→Prop} {w0 a b:World} (h:Zb S a b) (h0:Since w0 a) (hs:∀ k,k<w0.heap.size→¬ S k):Since w0 b:=
 ⟨h.os.trans h0.os,h.tape.trans h0.tape,h.output.trans h0.output,Nat.le_trans h0.size h.size,fun i hi=>(h.block i (Nat.lt_of_lt_of_le hi h0.size) (hs i hi)).trans (h0.block i hi)⟩
theorem Zb.cell {S : Nat→Prop} {a b:World} (h:Zb S a b) {p : Addr} (hp:p.block<a.heap.size) (hn:¬ S p.block):b.cell? p=a.cell? p:=World.cell?_of_block (h.block p.block hp hn)
theorem Zy.turn {S : Nat→Prop} {k : IntKind} {w w':World} {v : Value} {l : List Int} (h:Zy k w v l) (t:Zb S w w') (hn:∀ q,v.ownBlock=some q→¬ S q):Zy k w' v l:=by
 rcases h with h|⟨b,off,cap,h1,h2,h3,h4,h5⟩
 ·exact .inl h
 ·exact .inr ⟨b,off,cap,h1,h2,h3,Nat.lt_of_lt_of_le h4 t.size,fun j n hj=>by rw[t.cell (p:=⟨b,off+j,none⟩) h4 (hn b (by rw[h1];rfl))];exact h5 j n hj⟩
def In32 (x:Int):Prop:=-2147483648≤x∧x≤2147483647
end Go.Proofs.YtimpddecdodddaaGreat
