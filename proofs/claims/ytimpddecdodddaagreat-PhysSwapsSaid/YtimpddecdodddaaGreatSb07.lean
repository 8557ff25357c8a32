import Derived.Test.YtimpddecdodddaaGreatSb02
namespace Go.Proofs.YtimpddecdodddaaGreat
open Go.RowKit Go.Lib
set_option linter.unusedVariables false
set_option maxHeartbeats 4000000
set_option maxRecDepth 100000
theorem z9 {P:Prop} (h:P:=by
 go_wp2
 go_round
 case rel=>exact⟨t+1,by omega,by go_num,fun j y hj hy=>by
  by_cases e:j=t
  ·subst e;rw[he.out]at hy;cases hy;omega
  ·exact hf.out j y (by omega) hy⟩
 case measure=>simp[intOf];omega):P:=h
theorem qb {P:Prop} (h:P:=by
 rw[if_pos (by omega)];go_enter Tryz.func70,Tryz.ntmps70
 go_wp2
 go_ret
 exact Zp ((Since.refl _).alloc _) [a] _ (by simp) rfl (show 1≤maxLen from by decide) rfl):P:=h
theorem qf {P:Prop} (h:P:=by
 rw[if_neg (by omega)];have n3:=zN op 3;have n4:=zN op 4;have n5:=zN op 5;go_enter Tryz.func70,Tryz.ntmps70
 go_wp2
 go_ret
 exact ZP ((Since.refl _).alloc _)):P:=h
theorem qk {P:Prop} (h:P:=by
 rw[if_pos (by omega)];go_enter Tryz.func89,Tryz.ntmps89
 go_wp2
 go_ret
 exact Zp ((Since.refl _).alloc _) [a] _ (by simp) rfl (show 1≤maxLen from by decide) rfl):P:=h
theorem qW {P:Prop} (h:P:=by
 rw[if_neg (by omega)];go_enter Tryz.func89,Tryz.ntmps89
 go_wp2
 go_ret
 exact ZP ((Since.refl _).alloc _)):P:=h
theorem yE {P:Prop} (h:P:=by
 rintro e1 w1 ⟨rfl,rfl⟩;go_wp2
 go_ret
 exact⟨by rw[←HP.out];rfl,(Since.refl _).alloc _⟩):P:=h
theorem yI {P:Prop} (h:P:=by
 go_enter Tryz.func63,Tryz.ntmps63
 go_wp2
 go_ret2
 exact⟨rfl,rfl⟩):P:=h
theorem yQ {P:Prop} (h:P:=by
 have HB:=hid hb;clear hb;go_wp2
 go_ret
 exact⟨by rw[←HP.out,HB.out];rfl,HS.out⟩):P:=h
def ev (e:Yb):Value:=.agg #[.int .i64 e.op,.int .i64 e.a,.int .i64 e.b,e.tov,.int .i32 e.imm]
theorem Za2 (e:Yb) (w:World) (ht:∃ a n c,e.tov=.slice a n c):Calls Tryz.prog 89 #[ev e] w (YK w (needs e)):=by
 obtain⟨ta,tn,tc,hb⟩:=ht;obtain⟨op,a,b,to,tov,imm⟩:=e;dsimp only at hb;subst hb;unfold ev needs;dsimp only;by_cases g2:op=2
 ·subst g2;exact qk
 by_cases g6:op=6
 ·subst g6;exact qk
 have n2:(op==2)=false:=by simpa using g2
 have n6:(op==6)=false:=by simpa using g6
 by_cases g7:op=7
 ·subst g7;by_cases ha:0≤a
  ·exact qk
  ·rw[if_neg kT,if_neg kT];have hd:decide (0≤a)=false:=decide_eq_false ha;go_enter Tryz.func89,Tryz.ntmps89
   exact jv
 rw[if_neg kT];have n7:(op==7)=false:=by simpa using g7
 clear g2 g6 g7;by_cases h3:3≤op
 ·by_cases h5:op≤5
  ·rw[if_pos ⟨h3,h5⟩];go_enter Tryz.func89,Tryz.ntmps89
   go_wp2
   go_ret
   exact Zp ((Since.refl _).alloc _) [a,b] _ kU rfl (show 2≤maxLen from by decide) rfl
  ·exact qW
 ·exact qW
theorem ZbT (e:Yb) (w:World) (ht:∃ a n c,e.tov=.slice a n c):Calls Tryz.prog 64 #[ev e] w (YK w (needs e)):=by
 have HN:=hid (fun w=>Za2 e w ht);obtain⟨ta,tn,tc,ha⟩:=ht;unfold ev at HN;unfold ev;rw[ha]at HN ⊢;clear ha;go_enter Tryz.func64,Tryz.ntmps64
 go_wp2_with fail
 refine (HN.out _).mono ?_;rintro e2 w1 ⟨v,rfl,hv,hs⟩;go_wp2
 exact jl
def wLo (op:Int):Int:=if op=1 then 1 else if op=6 then 2 else if op=7∨op=8 then 0 else 2
def wHi (op:Int):Int:=if op=1 then 1 else if op=6 then 65 else if op=7∨op=8 then 0 else 2
def ZfB (p q:Int) (w:World) (e:Ending) (w':World):Prop:=e=.returned (.tuple #[.int .i64 p,.int .i64 q])∧w=w'
theorem Zcr (op:Int) (w:World):Calls Tryz.prog 63 #[.int .i64 op] w (ZfB (wLo op) (wHi op) w):=by
 unfold wLo wHi;by_cases g1:op=1
 ·subst g1;exact yI
 by_cases g6:op=6
 ·subst g6;exact yI
 by_cases g7:op=7
 ·subst g7;exact yI
 by_cases g8:op=8
 ·subst g8;exact yI
 have g78:¬ (op=7∨op=8):=kT
 simp only[if_neg g1,if_neg g6,if_neg g78];clear g78;have n1:(op==1)=false:=by simpa using g1
 have n6:(op==6)=false:=by simpa using g6
 have n7:(op==7)=false:=by simpa using g7
 have n8:(op==8)=false:=by simpa using g8
 clear g1 g6 g7 g8;exact yI
theorem Zc0 (e:Yb):XC e=((decide (1≤e.op)&&decide (e.op≤8))&&(decide (wLo e.op≤(e.to.length:Int))&&decide ((e.to.length:Int)≤wHi e.op))):=by
 unfold XC wLo wHi;rw[Bool.eq_iff_iff];by_cases g1:e.op=1
 ·simp only[if_pos g1];simp;omega
 by_cases g6:e.op=6
 ·simp only[if_neg g1,if_neg (show ¬ (2≤e.op∧e.op≤5) by omega),if_pos g6];simp;omega
 by_cases g78:e.op=7∨e.op=8
 ·simp only[if_neg g1,if_neg (show ¬ (2≤e.op∧e.op≤5) by omega),if_neg g6,if_pos g78];simp;omega
 by_cases g:2≤e.op∧e.op≤5
 ·simp only[if_neg g1,if_neg g6,if_neg g78,if_pos g];simp;omega
 ·simp only[if_neg g1,if_neg g6,if_neg g78,if_neg g];simp;omega
theorem ZbS (e:Yb):(needs e).length≤2:=by
 unfold needs;repeat' split
 all_goals simp
theorem ZaE (e:Yb) (k nb:Int) (w:World) (h:Zi w e.tov e.to) :
  Calls Tryz.prog 30 #[ev e,.int .i64 k,.int .i64 nb] w (NumP (endE e k nb) w):=by
 have HN:=hid (fun w=>ZbT e w (by obtain⟨a,c,h1⟩:=Zb h;exact⟨_,_,_,h1⟩))
 have hq:=hid (fun w=>Zcr e.op w);have ha:=Zc0 e;have hN:=ZbS e;obtain⟨ta,tc,ho⟩:=Zb h;have hG:=h.len;unfold maxLen at hG;have H:=hid h;clear h;generalize hE:endE e k nb=E;unfold endE at hE;have hC:Y5 e k=(needs e).any fun r=>decide (r<0)||decide (k≤r)||(e.op==7&&decide (0<r)):=rfl
 have hA:Ws nb e.to=e.to.any fun t=>decide (t<1)||decide (nb≤t):=rfl
 have hn:=hid hC;have hs:=hid hA;clear hC hA;unfold ev at HN;unfold ev;rw[ho]at HN ⊢;have hK:=hid ho;clear ho;generalize wLo e.op=lo at *;generalize wHi e.op=hi at *;have hr:=hid (fun w=>Xc e.op 1 8 w);have hF:=hid (fun w=>Xc (e.to.length:Int) lo hi w)
 generalize (decide (1≤e.op)&&decide (e.op≤8))=f1 at *;generalize (decide (lo≤(e.to.length:Int))&&decide ((e.to.length:Int)≤hi))=f2 at *
 cases f1 with
 | false =>
  rw[Bool.false_and]at ha;rw[if_pos ha]at hE;have HP:=hid hE;clear ha hE;go_enter Tryz.func30,Tryz.ntmps30
  go_wp2_with fail
  refine (hq.out _).mono ?_;rintro e1 w1 ⟨rfl,rfl⟩;go_wp2_with fail
  refine (hr.out _).mono ?_;exact yE
 | true =>
  rw[Bool.true_and]at ha
  cases f2 with
  | false =>
   rw[if_pos ha]at hE;have HP:=hid hE;clear ha hE;go_enter Tryz.func30,Tryz.ntmps30
   go_wp2_with fail
   refine (hq.out _).mono ?_;rintro e1 w1 ⟨rfl,rfl⟩;go_wp2_with fail
   refine (hr.out _).mono ?_;rintro e1 w1 ⟨rfl,rfl⟩;go_wp2_with fail
   refine (hF.out _).mono ?_;exact yE
  | true =>
   rw[if_neg (by rw[ha];decide)]at hE;have HP:=hid hE;clear ha hE;go_enter Tryz.func30,Tryz.ntmps30
   go_wp2_with fail
   refine (hq.out _).mono ?_;rintro e1 w1 ⟨rfl,rfl⟩;go_wp2_with fail
   refine (hr.out _).mono ?_;rintro e1 w1 ⟨rfl,rfl⟩;go_wp2_with fail
   refine (hF.out _).mono ?_;rintro e1 w1 ⟨rfl,rfl⟩;go_wp2_with fail
   refine (HN.out _).mono ?_;rintro e1 w1 ⟨v,rfl,hv,hp⟩;obtain⟨ra,rc,rfl⟩:=Zb hv;have hc:∀ i,w1.cell? ⟨w.heap.size,i,none⟩=_:=fun i=>hp.cell (p:=⟨w.heap.size,i,none⟩) kU
   have HX:=hid hv;have HS:=hid (((Since.refl w).alloc (.cells #[.int .i64 e.op,.int .i64 e.a,.int .i64 e.b,.slice ta e.to.length tc,.int .i32 e.imm] 32)).trans hp);clear hv hp;generalize needs e=R at *;go_wp2
   go_loop [35] (fun i=>∃ t:Nat,t≤R.length∧i=.int .i64 t∧∀ (j:Nat) (x:Int),j<t→R[j]? = some x→0≤x∧x<k∧¬ (e.op=7∧0<x)) (fun i=>R.length-(intOf i).toNat)
   case atStart=>exact⟨0,Nat.zero_le _,rfl,fun j x hj=>by omega⟩
   case round =>
    obtain⟨t,ht,rfl,hh⟩:=hrel;have hf:=hid hh;clear hh;by_cases hg:t<R.length
    ·obtain⟨_,hm⟩:=Zx HX.out;obtain⟨B,off,rfl,hB,hd⟩:=hm (by intro e;rw[e]at hg;simp at hg);obtain⟨x,hx⟩:∃ x,R[t]? = some x:=⟨_,List.getElem?_eq_getElem hg⟩
     have hJ:=hd t x hx;have he:=hid hx;clear hd hm hB hx;by_cases hl:x<0
     ·have hb:Y5 e k=true:=by
       rw[hn.out,List.any_eq_true];exact⟨x,List.mem_of_getElem? he.out,by simp[hl]⟩
      exact yQ
     ·have hI:decide (x<0)=false:=decide_eq_false hl;by_cases hk:k≤x
      ·have hb:Y5 e k=true:=by
        rw[hn.out,List.any_eq_true];exact⟨x,List.mem_of_getElem? he.out,by simp[hk]⟩
       exact yQ
      ·have hH:decide (k≤x)=false:=decide_eq_false hk
       cases h7:(e.op==7) with
       | true =>
        by_cases hu:0<x
        ·have hb:Y5 e k=true:=by
          rw[hn.out,List.any_eq_true];exact⟨x,List.mem_of_getElem? he.out,by simp[h7,hu]⟩
         exact yQ
        ·have hO:decide (0<x)=false:=decide_eq_false hu;exact z9
       | false =>
        have hD:¬ e.op=7:=by simpa using h7
        have H7:=hid hD;clear hD;go_wp2
        go_round
        case rel=>exact⟨t+1,kT,by go_num,fun j y hj hy=>by
         by_cases e:j=t
         ·subst e;rw[he.out]at hy;cases hy;have:=H7.out;omega
         ·exact hf.out j y kT hy⟩
        case measure=>simp[intOf];omega
    ·obtain rfl:t=R.length:=kT
     have hb:Y5 e k=false:=by
      rw[hn.out,List.any_eq_false];intro x hx;obtain⟨j,hj⟩:=List.getElem?_of_mem hx;have:=hf.out j x (List.getElem?_eq_some_iff.1 hj).1 hj;simp;omega
     rw[hb,if_neg kS]at HP;clear hb;have hw:=(hK.out ▸ H.out:Zi w (.slice ta e.to.length tc) e.to).keep HS.out;have hL:=hid hw;clear hw;go_wp2
     go_loop [59] (fun i=>∃ t:Nat,t≤e.to.length∧i=.int .i64 t∧∀ (j:Nat) (x:Int),j<t→e.to[j]? = some x→1≤x∧x<nb) (fun i=>e.to.length-(intOf i).toNat)
     case atStart=>exact⟨0,Nat.zero_le _,rfl,fun j x hj=>by omega⟩
     case round =>
      obtain⟨t,ht,rfl,hh⟩:=hrel;have hf:=hid hh;clear hh;by_cases hg:t<e.to.length
      ·obtain⟨_,hm⟩:=Zx hL.out;obtain⟨B,off,rfl,hB,hd⟩:=hm (by intro e;rw[e]at hg;simp at hg);obtain⟨x,hx⟩:∃ x,e.to[t]? = some x:=⟨_,List.getElem?_eq_getElem hg⟩
       have hJ:=hd t x hx;have he:=hid hx;clear hd hm hB hx;by_cases hl:x<1
       ·have hb:Ws nb e.to=true:=by
         rw[hs.out,List.any_eq_true];exact⟨x,List.mem_of_getElem? he.out,by simp[hl]⟩
        exact yQ
       ·have hI:decide (x<1)=false:=decide_eq_false hl;by_cases hk:nb≤x
        ·have hb:Ws nb e.to=true:=by
          rw[hs.out,List.any_eq_true];exact⟨x,List.mem_of_getElem? he.out,by simp[hk]⟩
         exact yQ
        ·have hH:decide (nb≤x)=false:=decide_eq_false hk;exact z9
      ·have hz:t=e.to.length:=kT
       have hM:=hid hz;clear hz;have hb:Ws nb e.to=false:=by
        rw[hs.out,List.any_eq_false];intro x hx;obtain⟨j,hj⟩:=List.getElem?_of_mem hx;have:=hf.out j x (by have:=(List.getElem?_eq_some_iff.1 hj).1;have:=hM.out;omega) hj
        simp;omega
       rw[hb]at HP;clear hb;go_wp2
       go_ret
       exact⟨by rw[←HP.out];rfl,HS.out⟩
theorem ZaR (e:Yb) (w:World) (ht:∃ a n c,e.tov=.slice a n c):Calls Tryz.prog 70 #[ev e] w (YK w (needs e)):=by
 obtain⟨ta,tn,tc,hb⟩:=ht;obtain⟨op,a,b,to,tov,imm⟩:=e;dsimp only at hb;subst hb;unfold ev needs;dsimp only;by_cases g2:op=2
 ·subst g2;exact qb
 by_cases g6:op=6
 ·subst g6;exact qb
 have n2:(op==2)=false:=by simpa using g2
 have n6:(op==6)=false:=by simpa using g6
 by_cases g7:op=7
 ·subst g7;by_cases ha:0≤a
  ·exact qb
  ·rw[if_neg kT,if_neg kT];have hd:decide (0≤a)=false:=decide_eq_false ha;go_enter Tryz.func70,Tryz.ntmps70
   exact jv
 rw[if_neg kT];have n7:(op==7)=false:=by simpa using g7
 clear g2 g6 g7;by_cases h3:3≤op
 ·by_cases h5:op≤5
  ·rw[if_pos ⟨h3,h5⟩];rcases (show op=3∨op=4∨op=5 by omega) with rfl|rfl|rfl;all_goals
    go_enter Tryz.func70,Tryz.ntmps70
    go_wp2
    go_ret
    exact Zp ((Since.refl _).alloc _) [a,b] _ kU rfl (show 2≤maxLen from by decide) rfl
  ·exact qf
 ·exact qf
end Go.Proofs.YtimpddecdodddaaGreat
