import Derived.Test.YtimpddecdodddaaGreatSt02
namespace Go.Proofs.YtimpddecdodddaaGreat
open Go.Proofs.Tryz Go.RowKit Go.Lib
set_option linter.unusedVariables false
set_option maxHeartbeats 8000000
set_option maxRecDepth 100000
theorem zg {P:Prop} (h:P:=by
 rw[hb,if_neg (by decide)]at HP;clear hb;have hC:=hid (H.out.keep HS.out);go_wp2
 go_loop [11] (fun i=>∃ t:Nat,t≤to.length∧i=.int .i64 t∧∀ (j:Nat) (x:Int),j<t→to[j]? = some x→1≤x∧x<nb) (fun i=>to.length-(intOf i).toNat)
 case atStart=>exact⟨0,Nat.zero_le _,rfl,fun j x hj=>by omega⟩
 case round =>
  obtain⟨t,ht,rfl,hg⟩:=hrel;have hh:=hid hg;clear hg;by_cases he:t<to.length
  ·obtain⟨_,hm⟩:=Zr hC.out;obtain⟨B,off,rfl,hB,ha⟩:=hm (by intro e;rw[e]at he;simp at he);obtain⟨x,hx⟩:∃ x,to[t]? = some x:=⟨_,List.getElem?_eq_getElem he⟩
   have hA:=ha t x hx;have hd:=hid hx;clear ha hm hB hx;by_cases hl:x<1
   ·have hb:Yf nb to=true:=by
     rw[hq.out,List.any_eq_true];exact⟨x,List.mem_of_getElem? hd.out,by simp[hl]⟩
    have HB:=hid hb;clear hb;go_wp2
    go_ret
    exact⟨by rw[←HP.out,HB.out];rfl,HS.out⟩
   ·have hz:decide (x<1)=false:=decide_eq_false hl;by_cases hk:nb≤x
    ·have hb:Yf nb to=true:=by
      rw[hq.out,List.any_eq_true];exact⟨x,List.mem_of_getElem? hd.out,by simp[hk]⟩
     have HB:=hid hb;clear hb;go_wp2
     go_ret
     exact⟨by rw[←HP.out,HB.out];rfl,HS.out⟩
    ·have hw:decide (nb≤x)=false:=decide_eq_false hk;go_wp2
     go_round
     case rel=>exact⟨t+1,by omega,by go_num,fun j y hj hy=>by
      by_cases e:j=t
      ·subst e;rw[hd.out]at hy;cases hy;omega
      ·exact hh.out j y (by omega) hy⟩
     case measure=>simp[intOf];omega
  ·have hr:t=to.length:=by omega
   have hD:=hid hr;clear hr;have hb:Yf nb to=false:=by
    rw[hq.out,List.any_eq_false];intro x hx;obtain⟨j,hj⟩:=List.getElem?_of_mem hx;have:=hh.out j x (by have:=(List.getElem?_eq_some_iff.1 hj).1;have:=hD.out;omega) hj
    simp;omega
   rw[hb]at HP;clear hb;go_wp2
   go_ret
   exact⟨by rw[←HP.out];rfl,HS.out⟩):P:=h
theorem zM {P:Prop} (h:P:=by
 have hs:((to.length:Int)==0)=false:=beq_eq_false_iff_ne.2 (by omega);clear hn hi;rw[if_pos hf]at hE;have HE:=hid hE;clear hE hf;go_enter func42,ntmps42
 go_wp2
 go_ret
 exact⟨by rw[←HE.out];rfl,(Since.refl _).alloc _⟩):P:=h
theorem zO {P:Prop} (h:P:=by
 have hs:((to.length:Int)==2)=false:=beq_eq_false_iff_ne.2 (by omega);clear hn hi;rw[if_pos hf]at hE;have HE:=hid hE;clear hE hf;go_enter func42,ntmps42
 go_wp2
 go_ret
 exact⟨by rw[←HE.out];rfl,(Since.refl _).alloc _⟩):P:=h
theorem zT {P:Prop} (h:P:=by
 have hw:decide (k≤x)=false:=decide_eq_false hk;go_wp2
 go_round
 case rel=>exact⟨t+1,by omega,by go_num,fun j y hj hy=>by
  by_cases e:j=t
  ·subst e;rw[hd.out]at hy;cases hy;omega
  ·exact hh.out j y (by omega) hy⟩
 case measure=>simp[intOf];omega):P:=h
theorem qw {P:Prop} (h:P:=by
 rw[if_pos (by omega)];go_enter func70,ntmps70
 go_wp2
 go_ret
 exact Zk ((Since.refl _).alloc _) [a] _ (by simp) rfl (show 1≤maxLen from by decide) rfl):P:=h
theorem qx {P:Prop} (h:P:=by
 clear hn hi;rw[if_pos hf]at hE;have HE:=hid hE;clear hE hf;go_enter func42,ntmps42
 go_wp2
 go_ret
 exact⟨by rw[←HE.out];rfl,(Since.refl _).alloc _⟩):P:=h
theorem qB {P:Prop} (h:P:=by
 rw[if_neg (by omega)];have n3:=zN op 3;have n4:=zN op 4;have n5:=zN op 5;go_enter func70,ntmps70
 go_wp2
 go_ret
 exact ZP ((Since.refl _).alloc _)):P:=h
theorem yu {P:Prop} (h:P:=by rw[hp.out,List.any_eq_false];intro x hx;obtain⟨j,hj⟩:=List.getElem?_of_mem hx;have:=hh.out j x (List.getElem?_eq_some_iff.1 hj).1 hj;simp;omega):P:=h
theorem yE {P:Prop} (h:P:=by
 go_enter func42,ntmps42
 go_wp2
 go_ret
 exact⟨by rw[←HE.out];rfl,(Since.refl _).alloc _⟩):P:=h
theorem jK {P:Prop} (h:P:=by rw[hp.out,List.any_eq_true];exact⟨x,List.mem_of_getElem? hd.out,by simp[hk]⟩):P:=h
theorem jL {P:Prop} (h:P:=by rw[hp.out,List.any_eq_true];exact⟨x,List.mem_of_getElem? hd.out,by simp[hl]⟩):P:=h
theorem zac {P:Prop} (h:P:=by intro e;rw[e]at he;simp at he):P:=h
theorem zaD {P:Prop} (h:P:=by rw[hf];decide):P:=h
theorem KC (e:ZY) (w:World) (ht:∃ a n c,e.tov=.slice a n c):Calls prog 70 #[ev e] w (Yo w (needs e)):=by
 obtain⟨ta,tn,tc,hb⟩:=ht;obtain⟨op,a,b,to,tov,imm⟩:=e;dsimp only at hb;subst hb;unfold ev needs;dsimp only;by_cases g2:op=2
 ·subst g2;exact qw
 by_cases g6:op=6
 ·subst g6;exact qw
 have n2:(op==2)=false:=by simpa using g2
 have n6:(op==6)=false:=by simpa using g6
 by_cases g7:op=7
 ·subst g7;by_cases ha:0≤a
  ·exact qw
  ·rw[if_neg zaK,if_neg zaK];have hd:decide (0≤a)=false:=decide_eq_false ha;go_enter func70,ntmps70
   exact kr
 rw[if_neg zaK];have n7:(op==7)=false:=by simpa using g7
 clear g2 g6 g7;by_cases h3:3≤op
 ·by_cases h5:op≤5
  ·rw[if_pos ⟨h3,h5⟩];rcases (show op=3∨op=4∨op=5 by omega) with rfl|rfl|rfl;all_goals
    go_enter func70,ntmps70
    go_wp2
    go_ret
    exact Zk ((Since.refl _).alloc _) [a,b] _ zaL rfl (show 2≤maxLen from by decide) rfl
  ·exact qB
 ·exact qB
theorem ZdE (e:ZY) (k nb:Int) (w:World) (h:Zd w e.tov e.to) :
  Calls prog 42 #[ev e,.int .i64 k,.int .i64 nb] w (NumP (endE e k nb) w):=by
 obtain⟨op,a,b,to,tov,imm⟩:=e;dsimp only at h;obtain⟨ta,tc,rfl⟩:=Zc h;have HN:=hid (fun w=>KC ⟨op,a,b,to,.slice ta to.length tc,imm⟩ w ⟨_,_,_,rfl⟩);have hL:=h.len;unfold maxLen at hL;have H:=hid h;clear h;generalize hE:endE ⟨op,a,b,to,.slice ta to.length tc,imm⟩ k nb=E;unfold endE at hE;have hJ:ZL ⟨op,a,b,to,.slice ta to.length tc,imm⟩ k=(needs ⟨op,a,b,to,.slice ta to.length tc,imm⟩).any fun r=>decide (r<0)||decide (k≤r)||(op==7&&decide (0<r)):=rfl
 have hI:Yf nb to=to.any fun t=>decide (t<1)||decide (nb≤t):=rfl
 have hp:=hid hJ;have hq:=hid hI;clear hJ hI;dsimp only at hE;unfold ev at HN ⊢;dsimp only at HN ⊢;by_cases g1:op=1
 ·subst g1;have hi:Ya ⟨1,a,b,to,.slice ta to.length tc,imm⟩=decide (to.length=1):=rfl;by_cases hn:to.length=1
  rotate_left
  ·have hf:Ya ⟨1,a,b,to,.slice ta to.length tc,imm⟩=false:=by rw[hi,decide_eq_false hn]
   have hs:((to.length:Int)==1)=false:=beq_eq_false_iff_ne.2 zaK;exact qx
  ·have hf:Ya ⟨1,a,b,to,.slice ta to.length tc,imm⟩=true:=by rw[hi,decide_eq_true hn]
   have hs:((to.length:Int)==1)=true:=by simp[hn]
   clear hn hi;rw[if_neg zaD]at hE;have HP:=hid hE;clear hE hf;go_enter func42,ntmps42
   go_wp2_with fail
   refine (HN.out _).mono ?_;rintro e1 w1 ⟨v,rfl,hv,ho⟩;obtain⟨ra,rc,rfl⟩:=Zc hv;have hc:∀ i,w1.cell? ⟨w.heap.size,i,none⟩=_:=fun i=>ho.cell (p:=⟨w.heap.size,i,none⟩) zaL
   have HX:=hid hv;have hu:=hv.len;unfold maxLen at hu;have HS:=hid (((Since.refl w).alloc (.cells #[.int .i64 1,.int .i64 a,.int .i64 b,.slice ta to.length tc,.int .i32 imm] 32)).trans ho);have hF:w.heap.size<w1.heap.size:=by have:=ho.size;simp at this;omega
   clear hv ho HN;generalize needs ⟨1,a,b,to,.slice ta to.length tc,imm⟩=R at *;go_wp2
   go_loop [10] (fun i=>∃ t:Nat,t≤R.length∧i=.int .i64 t∧∀ (j:Nat) (x:Int),j<t→R[j]? = some x→0≤x∧x<k) (fun i=>R.length-(intOf i).toNat)
   case atStart=>exact⟨0,Nat.zero_le _,rfl,fun j x hj=>by omega⟩
   case round =>
    obtain⟨t,ht,rfl,hg⟩:=hrel;have hh:=hid hg;clear hg;by_cases he:t<R.length
    ·obtain⟨_,hm⟩:=Zr HX.out;obtain⟨B,off,rfl,hB,ha⟩:=hm zac;obtain⟨x,hx⟩:∃ x,R[t]? = some x:=⟨_,List.getElem?_eq_getElem he⟩
     have hA:=ha t x hx;have hd:=hid hx;clear ha hm hB hx;by_cases hl:x<0
     ·have hb:ZL ⟨1,a,b,to,.slice ta to.length tc,imm⟩ k=true:=by
       exact jL
      exact jD
     ·have hz:decide (x<0)=false:=decide_eq_false hl;by_cases hk:k≤x
      ·have hb:ZL ⟨1,a,b,to,.slice ta to.length tc,imm⟩ k=true:=by
        exact jK
       exact jD
      ·exact zT
    ·obtain rfl:t=R.length:=zaK
     have hb:ZL ⟨1,a,b,to,.slice ta to.length tc,imm⟩ k=false:=by
      exact yu
     exact zg
 have n1:(op==1)=false:=by simpa using g1
 by_cases g2:op=2
 ·subst g2;have hi:Ya ⟨2,a,b,to,.slice ta to.length tc,imm⟩=decide (to.length=2):=rfl;by_cases hn:to.length=2
  rotate_left
  ·have hf:Ya ⟨2,a,b,to,.slice ta to.length tc,imm⟩=false:=by rw[hi,decide_eq_false hn]
   exact zO
  ·have hf:Ya ⟨2,a,b,to,.slice ta to.length tc,imm⟩=true:=by rw[hi,decide_eq_true hn]
   have hs:((to.length:Int)==2)=true:=by simp[hn]
   clear hn hi;rw[if_neg zaD]at hE;have HP:=hid hE;clear hE hf;go_enter func42,ntmps42
   go_wp2_with fail
   refine (HN.out _).mono ?_;rintro e1 w1 ⟨v,rfl,hv,ho⟩;obtain⟨ra,rc,rfl⟩:=Zc hv;have hc:∀ i,w1.cell? ⟨w.heap.size,i,none⟩=_:=fun i=>ho.cell (p:=⟨w.heap.size,i,none⟩) zaL
   have HX:=hid hv;have hu:=hv.len;unfold maxLen at hu;have HS:=hid (((Since.refl w).alloc (.cells #[.int .i64 2,.int .i64 a,.int .i64 b,.slice ta to.length tc,.int .i32 imm] 32)).trans ho);have hF:w.heap.size<w1.heap.size:=by have:=ho.size;simp at this;omega
   clear hv ho HN;generalize needs ⟨2,a,b,to,.slice ta to.length tc,imm⟩=R at *;go_wp2
   go_loop [10] (fun i=>∃ t:Nat,t≤R.length∧i=.int .i64 t∧∀ (j:Nat) (x:Int),j<t→R[j]? = some x→0≤x∧x<k) (fun i=>R.length-(intOf i).toNat)
   case atStart=>exact⟨0,Nat.zero_le _,rfl,fun j x hj=>by omega⟩
   case round =>
    obtain⟨t,ht,rfl,hg⟩:=hrel;have hh:=hid hg;clear hg;by_cases he:t<R.length
    ·obtain⟨_,hm⟩:=Zr HX.out;obtain⟨B,off,rfl,hB,ha⟩:=hm zac;obtain⟨x,hx⟩:∃ x,R[t]? = some x:=⟨_,List.getElem?_eq_getElem he⟩
     have hA:=ha t x hx;have hd:=hid hx;clear ha hm hB hx;by_cases hl:x<0
     ·have hb:ZL ⟨2,a,b,to,.slice ta to.length tc,imm⟩ k=true:=by
       exact jL
      exact jD
     ·have hz:decide (x<0)=false:=decide_eq_false hl;by_cases hk:k≤x
      ·have hb:ZL ⟨2,a,b,to,.slice ta to.length tc,imm⟩ k=true:=by
        exact jK
       exact jD
      ·exact zT
    ·obtain rfl:t=R.length:=zaK
     have hb:ZL ⟨2,a,b,to,.slice ta to.length tc,imm⟩ k=false:=by
      exact yu
     exact zg
 have n2:(op==2)=false:=by simpa using g2
 by_cases g3:op=3
 ·subst g3;have hi:Ya ⟨3,a,b,to,.slice ta to.length tc,imm⟩=decide (to.length=2):=rfl;by_cases hn:to.length=2
  rotate_left
  ·have hf:Ya ⟨3,a,b,to,.slice ta to.length tc,imm⟩=false:=by rw[hi,decide_eq_false hn]
   exact zO
  ·have hf:Ya ⟨3,a,b,to,.slice ta to.length tc,imm⟩=true:=by rw[hi,decide_eq_true hn]
   have hs:((to.length:Int)==2)=true:=by simp[hn]
   clear hn hi;rw[if_neg zaD]at hE;have HP:=hid hE;clear hE hf;go_enter func42,ntmps42
   go_wp2_with fail
   refine (HN.out _).mono ?_;rintro e1 w1 ⟨v,rfl,hv,ho⟩;obtain⟨ra,rc,rfl⟩:=Zc hv;have hc:∀ i,w1.cell? ⟨w.heap.size,i,none⟩=_:=fun i=>ho.cell (p:=⟨w.heap.size,i,none⟩) zaL
   have HX:=hid hv;have hu:=hv.len;unfold maxLen at hu;have HS:=hid (((Since.refl w).alloc (.cells #[.int .i64 3,.int .i64 a,.int .i64 b,.slice ta to.length tc,.int .i32 imm] 32)).trans ho);have hF:w.heap.size<w1.heap.size:=by have:=ho.size;simp at this;omega
   clear hv ho HN;generalize needs ⟨3,a,b,to,.slice ta to.length tc,imm⟩=R at *;go_wp2
   go_loop [10] (fun i=>∃ t:Nat,t≤R.length∧i=.int .i64 t∧∀ (j:Nat) (x:Int),j<t→R[j]? = some x→0≤x∧x<k) (fun i=>R.length-(intOf i).toNat)
   case atStart=>exact⟨0,Nat.zero_le _,rfl,fun j x hj=>by omega⟩
   case round =>
    obtain⟨t,ht,rfl,hg⟩:=hrel;have hh:=hid hg;clear hg;by_cases he:t<R.length
    ·obtain⟨_,hm⟩:=Zr HX.out;obtain⟨B,off,rfl,hB,ha⟩:=hm zac;obtain⟨x,hx⟩:∃ x,R[t]? = some x:=⟨_,List.getElem?_eq_getElem he⟩
     have hA:=ha t x hx;have hd:=hid hx;clear ha hm hB hx;by_cases hl:x<0
     ·have hb:ZL ⟨3,a,b,to,.slice ta to.length tc,imm⟩ k=true:=by
       exact jL
      exact jD
     ·have hz:decide (x<0)=false:=decide_eq_false hl;by_cases hk:k≤x
      ·have hb:ZL ⟨3,a,b,to,.slice ta to.length tc,imm⟩ k=true:=by
        exact jK
       exact jD
      ·exact zT
    ·obtain rfl:t=R.length:=zaK
     have hb:ZL ⟨3,a,b,to,.slice ta to.length tc,imm⟩ k=false:=by
      exact yu
     exact zg
 have n3:(op==3)=false:=by simpa using g3
 by_cases g4:op=4
 ·subst g4;have hi:Ya ⟨4,a,b,to,.slice ta to.length tc,imm⟩=decide (to.length=2):=rfl;by_cases hn:to.length=2
  rotate_left
  ·have hf:Ya ⟨4,a,b,to,.slice ta to.length tc,imm⟩=false:=by rw[hi,decide_eq_false hn]
   exact zO
  ·have hf:Ya ⟨4,a,b,to,.slice ta to.length tc,imm⟩=true:=by rw[hi,decide_eq_true hn]
   have hs:((to.length:Int)==2)=true:=by simp[hn]
   clear hn hi;rw[if_neg zaD]at hE;have HP:=hid hE;clear hE hf;go_enter func42,ntmps42
   go_wp2_with fail
   refine (HN.out _).mono ?_;rintro e1 w1 ⟨v,rfl,hv,ho⟩;obtain⟨ra,rc,rfl⟩:=Zc hv;have hc:∀ i,w1.cell? ⟨w.heap.size,i,none⟩=_:=fun i=>ho.cell (p:=⟨w.heap.size,i,none⟩) zaL
   have HX:=hid hv;have hu:=hv.len;unfold maxLen at hu;have HS:=hid (((Since.refl w).alloc (.cells #[.int .i64 4,.int .i64 a,.int .i64 b,.slice ta to.length tc,.int .i32 imm] 32)).trans ho);have hF:w.heap.size<w1.heap.size:=by have:=ho.size;simp at this;omega
   clear hv ho HN;generalize needs ⟨4,a,b,to,.slice ta to.length tc,imm⟩=R at *;go_wp2
   go_loop [10] (fun i=>∃ t:Nat,t≤R.length∧i=.int .i64 t∧∀ (j:Nat) (x:Int),j<t→R[j]? = some x→0≤x∧x<k) (fun i=>R.length-(intOf i).toNat)
   case atStart=>exact⟨0,Nat.zero_le _,rfl,fun j x hj=>by omega⟩
   case round =>
    obtain⟨t,ht,rfl,hg⟩:=hrel;have hh:=hid hg;clear hg;by_cases he:t<R.length
    ·obtain⟨_,hm⟩:=Zr HX.out;obtain⟨B,off,rfl,hB,ha⟩:=hm zac;obtain⟨x,hx⟩:∃ x,R[t]? = some x:=⟨_,List.getElem?_eq_getElem he⟩
     have hA:=ha t x hx;have hd:=hid hx;clear ha hm hB hx;by_cases hl:x<0
     ·have hb:ZL ⟨4,a,b,to,.slice ta to.length tc,imm⟩ k=true:=by
       exact jL
      exact jD
     ·have hz:decide (x<0)=false:=decide_eq_false hl;by_cases hk:k≤x
      ·have hb:ZL ⟨4,a,b,to,.slice ta to.length tc,imm⟩ k=true:=by
        exact jK
       exact jD
      ·exact zT
    ·obtain rfl:t=R.length:=zaK
     have hb:ZL ⟨4,a,b,to,.slice ta to.length tc,imm⟩ k=false:=by
      exact yu
     exact zg
 have n4:(op==4)=false:=by simpa using g4
 by_cases g5:op=5
 ·subst g5;have hi:Ya ⟨5,a,b,to,.slice ta to.length tc,imm⟩=decide (to.length=2):=rfl;by_cases hn:to.length=2
  rotate_left
  ·have hf:Ya ⟨5,a,b,to,.slice ta to.length tc,imm⟩=false:=by rw[hi,decide_eq_false hn]
   exact zO
  ·have hf:Ya ⟨5,a,b,to,.slice ta to.length tc,imm⟩=true:=by rw[hi,decide_eq_true hn]
   have hs:((to.length:Int)==2)=true:=by simp[hn]
   clear hn hi;rw[if_neg zaD]at hE;have HP:=hid hE;clear hE hf;go_enter func42,ntmps42
   go_wp2_with fail
   refine (HN.out _).mono ?_;rintro e1 w1 ⟨v,rfl,hv,ho⟩;obtain⟨ra,rc,rfl⟩:=Zc hv;have hc:∀ i,w1.cell? ⟨w.heap.size,i,none⟩=_:=fun i=>ho.cell (p:=⟨w.heap.size,i,none⟩) zaL
   have HX:=hid hv;have hu:=hv.len;unfold maxLen at hu;have HS:=hid (((Since.refl w).alloc (.cells #[.int .i64 5,.int .i64 a,.int .i64 b,.slice ta to.length tc,.int .i32 imm] 32)).trans ho);have hF:w.heap.size<w1.heap.size:=by have:=ho.size;simp at this;omega
   clear hv ho HN;generalize needs ⟨5,a,b,to,.slice ta to.length tc,imm⟩=R at *;go_wp2
   go_loop [10] (fun i=>∃ t:Nat,t≤R.length∧i=.int .i64 t∧∀ (j:Nat) (x:Int),j<t→R[j]? = some x→0≤x∧x<k) (fun i=>R.length-(intOf i).toNat)
   case atStart=>exact⟨0,Nat.zero_le _,rfl,fun j x hj=>by omega⟩
   case round =>
    obtain⟨t,ht,rfl,hg⟩:=hrel;have hh:=hid hg;clear hg;by_cases he:t<R.length
    ·obtain⟨_,hm⟩:=Zr HX.out;obtain⟨B,off,rfl,hB,ha⟩:=hm zac;obtain⟨x,hx⟩:∃ x,R[t]? = some x:=⟨_,List.getElem?_eq_getElem he⟩
     have hA:=ha t x hx;have hd:=hid hx;clear ha hm hB hx;by_cases hl:x<0
     ·have hb:ZL ⟨5,a,b,to,.slice ta to.length tc,imm⟩ k=true:=by
       exact jL
      exact jD
     ·have hz:decide (x<0)=false:=decide_eq_false hl;by_cases hk:k≤x
      ·have hb:ZL ⟨5,a,b,to,.slice ta to.length tc,imm⟩ k=true:=by
        exact jK
       exact jD
      ·exact zT
    ·obtain rfl:t=R.length:=zaK
     have hb:ZL ⟨5,a,b,to,.slice ta to.length tc,imm⟩ k=false:=by
      exact yu
     exact zg
 have n5:(op==5)=false:=by simpa using g5
 by_cases g6:op=6
 ·subst g6;have hi:Ya ⟨6,a,b,to,.slice ta to.length tc,imm⟩=(decide (2≤to.length)&&decide (to.length≤65)):=rfl;by_cases hn:to.length<2
  ·have hf:Ya ⟨6,a,b,to,.slice ta to.length tc,imm⟩=false:=by rw[hi,decide_eq_false (show ¬ 2≤to.length by omega)];rfl
   have hs:decide ((2:Int)≤(to.length:Int))=false:=decide_eq_false zaK;exact qx
  ·by_cases hH:65<to.length
   ·have hf:Ya ⟨6,a,b,to,.slice ta to.length tc,imm⟩=false:=by rw[hi,decide_eq_false (show ¬ to.length≤65 by omega),Bool.and_false]
    have hK:(2:Int)≤(to.length:Int):=zaK
    have hs:decide ((to.length:Int)≤65)=false:=decide_eq_false zaK;clear hn hH hi;rw[if_pos hf]at hE;have HE:=hid hE;clear hE hf;exact yE
   ·have hf:Ya ⟨6,a,b,to,.slice ta to.length tc,imm⟩=true:=by rw[hi,decide_eq_true (show 2≤to.length by omega),decide_eq_true (show to.length≤65 by omega)];rfl
    have hK:(2:Int)≤(to.length:Int):=zaK
    have hs:(to.length:Int)≤65:=zaK
    clear hn hH hi;rw[if_neg zaD]at hE;have HP:=hid hE;clear hE hf;go_enter func42,ntmps42
    go_wp2_with fail
    refine (HN.out _).mono ?_;rintro e1 w1 ⟨v,rfl,hv,ho⟩;obtain⟨ra,rc,rfl⟩:=Zc hv;have hc:∀ i,w1.cell? ⟨w.heap.size,i,none⟩=_:=fun i=>ho.cell (p:=⟨w.heap.size,i,none⟩) zaL
    have HX:=hid hv;have hu:=hv.len;unfold maxLen at hu;have HS:=hid (((Since.refl w).alloc (.cells #[.int .i64 6,.int .i64 a,.int .i64 b,.slice ta to.length tc,.int .i32 imm] 32)).trans ho);have hF:w.heap.size<w1.heap.size:=by have:=ho.size;simp at this;omega
    clear hv ho HN;generalize needs ⟨6,a,b,to,.slice ta to.length tc,imm⟩=R at *;go_wp2
    go_loop [10] (fun i=>∃ t:Nat,t≤R.length∧i=.int .i64 t∧∀ (j:Nat) (x:Int),j<t→R[j]? = some x→0≤x∧x<k) (fun i=>R.length-(intOf i).toNat)
    case atStart=>exact⟨0,Nat.zero_le _,rfl,fun j x hj=>by omega⟩
    case round =>
     obtain⟨t,ht,rfl,hg⟩:=hrel;have hh:=hid hg;clear hg;by_cases he:t<R.length
     ·obtain⟨_,hm⟩:=Zr HX.out;obtain⟨B,off,rfl,hB,ha⟩:=hm zac;obtain⟨x,hx⟩:∃ x,R[t]? = some x:=⟨_,List.getElem?_eq_getElem he⟩
      have hA:=ha t x hx;have hd:=hid hx;clear ha hm hB hx;by_cases hl:x<0
      ·have hb:ZL ⟨6,a,b,to,.slice ta to.length tc,imm⟩ k=true:=by
        exact jL
       exact jD
      ·have hz:decide (x<0)=false:=decide_eq_false hl;by_cases hk:k≤x
       ·have hb:ZL ⟨6,a,b,to,.slice ta to.length tc,imm⟩ k=true:=by
         exact jK
        exact jD
       ·exact zT
     ·obtain rfl:t=R.length:=zaK
      have hb:ZL ⟨6,a,b,to,.slice ta to.length tc,imm⟩ k=false:=by
       exact yu
      exact zg
 have n6:(op==6)=false:=by simpa using g6
 by_cases g7:op=7
 ·subst g7;have hi:Ya ⟨7,a,b,to,.slice ta to.length tc,imm⟩=decide (to.length=0):=rfl;by_cases hn:to.length=0
  rotate_left
  ·have hf:Ya ⟨7,a,b,to,.slice ta to.length tc,imm⟩=false:=by rw[hi,decide_eq_false hn]
   exact zM
  ·have hf:Ya ⟨7,a,b,to,.slice ta to.length tc,imm⟩=true:=by rw[hi,decide_eq_true hn]
   have hs:((to.length:Int)==0)=true:=by simp[hn]
   clear hn hi;rw[if_neg zaD]at hE;have HP:=hid hE;clear hE hf;go_enter func42,ntmps42
   go_wp2_with fail
   refine (HN.out _).mono ?_;rintro e1 w1 ⟨v,rfl,hv,ho⟩;obtain⟨ra,rc,rfl⟩:=Zc hv;have hc:∀ i,w1.cell? ⟨w.heap.size,i,none⟩=_:=fun i=>ho.cell (p:=⟨w.heap.size,i,none⟩) zaL
   have HX:=hid hv;have hu:=hv.len;unfold maxLen at hu;have HS:=hid (((Since.refl w).alloc (.cells #[.int .i64 7,.int .i64 a,.int .i64 b,.slice ta to.length tc,.int .i32 imm] 32)).trans ho);have hF:w.heap.size<w1.heap.size:=by have:=ho.size;simp at this;omega
   clear hv ho HN;generalize needs ⟨7,a,b,to,.slice ta to.length tc,imm⟩=R at *;go_wp2
   go_loop [10] (fun i=>∃ t:Nat,t≤R.length∧i=.int .i64 t∧∀ (j:Nat) (x:Int),j<t→R[j]? = some x→0≤x∧x<k∧¬ 0<x) (fun i=>R.length-(intOf i).toNat)
   case atStart=>exact⟨0,Nat.zero_le _,rfl,fun j x hj=>by omega⟩
   case round =>
    obtain⟨t,ht,rfl,hg⟩:=hrel;have hh:=hid hg;clear hg;by_cases he:t<R.length
    ·obtain⟨_,hm⟩:=Zr HX.out;obtain⟨B,off,rfl,hB,ha⟩:=hm zac;obtain⟨x,hx⟩:∃ x,R[t]? = some x:=⟨_,List.getElem?_eq_getElem he⟩
     have hA:=ha t x hx;have hd:=hid hx;clear ha hm hB hx;by_cases hl:x<0
     ·have hb:ZL ⟨7,a,b,to,.slice ta to.length tc,imm⟩ k=true:=by
       exact jL
      exact jD
     ·have hz:decide (x<0)=false:=decide_eq_false hl;by_cases hk:k≤x
      ·have hb:ZL ⟨7,a,b,to,.slice ta to.length tc,imm⟩ k=true:=by
        exact jK
       exact jD
      ·have hw:decide (k≤x)=false:=decide_eq_false hk;by_cases hG:0<x
       ·have hb:ZL ⟨7,a,b,to,.slice ta to.length tc,imm⟩ k=true:=by
         rw[hp.out,List.any_eq_true];exact⟨x,List.mem_of_getElem? hd.out,by simp[hG]⟩
        exact jD
       ·have hM:decide (0<x)=false:=decide_eq_false hG;go_wp2
        go_round
        case rel=>exact⟨t+1,zaK,by go_num,fun j y hj hy=>by
         by_cases e:j=t
         ·subst e;rw[hd.out]at hy;cases hy;omega
         ·exact hh.out j y zaK hy⟩
        case measure=>simp[intOf];omega
    ·obtain rfl:t=R.length:=zaK
     have hb:ZL ⟨7,a,b,to,.slice ta to.length tc,imm⟩ k=false:=by
      exact yu
     exact zg
 have n7:(op==7)=false:=by simpa using g7
 by_cases g8:op=8
 ·subst g8;have hi:Ya ⟨8,a,b,to,.slice ta to.length tc,imm⟩=decide (to.length=0):=rfl;by_cases hn:to.length=0
  rotate_left
  ·have hf:Ya ⟨8,a,b,to,.slice ta to.length tc,imm⟩=false:=by rw[hi,decide_eq_false hn]
   exact zM
  ·have hf:Ya ⟨8,a,b,to,.slice ta to.length tc,imm⟩=true:=by rw[hi,decide_eq_true hn]
   have hs:((to.length:Int)==0)=true:=by simp[hn]
   clear hn hi;rw[if_neg zaD]at hE;have HP:=hid hE;clear hE hf;go_enter func42,ntmps42
   go_wp2_with fail
   refine (HN.out _).mono ?_;rintro e1 w1 ⟨v,rfl,hv,ho⟩;obtain⟨ra,rc,rfl⟩:=Zc hv;have hc:∀ i,w1.cell? ⟨w.heap.size,i,none⟩=_:=fun i=>ho.cell (p:=⟨w.heap.size,i,none⟩) zaL
   have HX:=hid hv;have hu:=hv.len;unfold maxLen at hu;have HS:=hid (((Since.refl w).alloc (.cells #[.int .i64 8,.int .i64 a,.int .i64 b,.slice ta to.length tc,.int .i32 imm] 32)).trans ho);have hF:w.heap.size<w1.heap.size:=by have:=ho.size;simp at this;omega
   clear hv ho HN;generalize needs ⟨8,a,b,to,.slice ta to.length tc,imm⟩=R at *;go_wp2
   go_loop [10] (fun i=>∃ t:Nat,t≤R.length∧i=.int .i64 t∧∀ (j:Nat) (x:Int),j<t→R[j]? = some x→0≤x∧x<k) (fun i=>R.length-(intOf i).toNat)
   case atStart=>exact⟨0,Nat.zero_le _,rfl,fun j x hj=>by omega⟩
   case round =>
    obtain⟨t,ht,rfl,hg⟩:=hrel;have hh:=hid hg;clear hg;by_cases he:t<R.length
    ·obtain⟨_,hm⟩:=Zr HX.out;obtain⟨B,off,rfl,hB,ha⟩:=hm zac;obtain⟨x,hx⟩:∃ x,R[t]? = some x:=⟨_,List.getElem?_eq_getElem he⟩
     have hA:=ha t x hx;have hd:=hid hx;clear ha hm hB hx;by_cases hl:x<0
     ·have hb:ZL ⟨8,a,b,to,.slice ta to.length tc,imm⟩ k=true:=by
       exact jL
      exact jD
     ·have hz:decide (x<0)=false:=decide_eq_false hl;by_cases hk:k≤x
      ·have hb:ZL ⟨8,a,b,to,.slice ta to.length tc,imm⟩ k=true:=by
        exact jK
       exact jD
      ·exact zT
    ·obtain rfl:t=R.length:=zaK
     have hb:ZL ⟨8,a,b,to,.slice ta to.length tc,imm⟩ k=false:=by
      exact yu
     exact zg
 have n8:(op==8)=false:=by simpa using g8
 have hf:Ya ⟨op,a,b,to,.slice ta to.length tc,imm⟩=false:=by
  unfold Ya;dsimp only;rw[if_neg g1,if_neg zaK,if_neg g6,if_neg zaK]
 rw[if_pos hf]at hE;have HE:=hid hE;clear hE hf;clear g1 g2 g3 g4 g5 g6 g7 g8;exact yE
end Go.Proofs.YtimpddecdodddaaGreat
