import Derived.Test.YtimpddecdodddaaGreatSt03
import Derived.ChangeAlike
import Derived.RangeFuncNested
import Derived.RangeFuncBound
import Derived.RangeFuncCalls
import Derived.RangeFuncLeaves
import Derived.Shelf.Abstract
import Derived.Shelf.RegionOpen
import Derived.OwnWalkIn
import Derived.TacticsInMore
import Derived.LoopNIn
import Derived.LoopIn
namespace Go.Proofs.YtimpddecdodddaaGreat
open Go.Proofs.Tryz Go.RowKit Go.Lib
set_option linter.unusedVariables false
set_option maxHeartbeats 4000000
set_option maxRecDepth 100000
theorem zi {P:Prop} (h:P:=by
 obtain⟨k,hk,rfl,hh,hs⟩:=hrel;have hm:=hid hh;have HS:=hid hs;clear hh;by_cases ht:k<n1
 ·obtain⟨x,hx⟩:∃ x,l1[k]? = some x:=⟨_,List.getElem?_eq_getElem (by have:=hb.out;omega)⟩
  obtain⟨y,hy⟩:∃ y,l2[k]? = some y:=⟨_,List.getElem?_eq_getElem (by have:=hd.out;omega)⟩
  obtain⟨B,off,rfl,hB,hc⟩:=H1.out (by intro e;have:=hb.out;rw[e]at this;simp at this;omega);obtain⟨B2,off2,rfl,hi,ha⟩:=H2.out (by intro e;have:=hd.out;rw[e]at this;simp at this;omega);have k1:=(hs.cell (p:=⟨B,off+k,none⟩) hB).trans (hc k x hx);have k2:=(hs.cell (p:=⟨B2,off2+k,none⟩) hi).trans (ha k y hy);have b1:=Nat.lt_of_lt_of_le hB hs.size;have b2:=Nat.lt_of_lt_of_le hi hs.size;have HX:=hid hx;have HY:=hid hy;clear hc ha hs hB hi hx hy;by_cases he:x=y
  ·subst he;have hr:(x != x)=false:=by simp
   go_wp2_with fail
   go_quiet (fail)
   go_wp2
   go_roundw
   case rel =>
    refine⟨k+1,by omega,by go_num,fun j x2 y2 hj g1 g2=>?_,HS.out.trans (Since.drewN (Since.refl _) _)⟩;by_cases e:j=k
    ·subst e;have a1:=HX.out;have a2:=HY.out;rw[g1]at a1;rw[g2]at a2;rw[Option.some.inj a1,Option.some.inj a2]
    ·exact hm.out j x2 y2 (by omega) g1 g2
   case measure=>simp[intOf];omega
  ·have hq:(x != y)=true:=by simpa using he
   have HF:=hid (ZaD HX.out HY.out he);clear he;go_wp2_with fail
   go_quiet (fail)
   go_wp2
   go_ret
   exact⟨by rw[HF.out];rfl,HS.out.trans (Since.drewN (Since.refl _) _)⟩
 ·obtain rfl:k=n1:=by omega
  have HF:=hid (QP (hb.out.trans hd.out.symm) fun j x y g1 g2=>hm.out j x y (by have:=(List.getElem?_eq_some_iff.1 g1).1;have:=hb.out;omega) g1 g2)
  go_wp2
  go_ret
  exact⟨by rw[HF.out];rfl,HS.out⟩):P:=h
theorem zG {P:Prop} (h:P:=by
 subst hb;subst ha;have HX:=hid hx;have HY:=hid hy;clear hx hy;unfold plv;dsimp only;go_enter func122,ntmps122
 go_wp2_with fail
 go_region
 all_goals go_wp2
 all_goals go_ret
 all_goals exact⟨rfl,(((((Since.refl _).alloc _).alloc _).alloc _).alloc _).drew⟩):P:=h
theorem qq {P:Prop} (h:P:=by
 subst hb;subst ha;have HX:=hid hx;have HY:=hid hy;clear hx hy;unfold Yp;dsimp only;go_enter func85,ntmps85
 go_wp2
 go_ret
 exact⟨rfl,(((Since.refl _).alloc _).alloc _)⟩):P:=h
theorem zaF {P:Prop} (h:P:=by kernel_rfl):P:=h
def numsB (a b:List Int):Bool:=decide (a=b)
theorem QO {a b:List Int} (h:a.length≠b.length):numsB a b=false:=by
 unfold numsB;exact decide_eq_false fun e=>h (by rw[e])
theorem ZaD {a b:List Int} {k : Nat} {x y:Int} (hx:a[k]? = some x) (hy:b[k]? = some y) (h:x≠y):numsB a b=false:=by
 unfold numsB;exact decide_eq_false fun e=>h (by rw[e,hy]at hx;exact (Option.some.inj hx).symm)
theorem QP {a b:List Int} (hl:a.length=b.length) (h:∀ (k:Nat) (x y:Int),a[k]? = some x→b[k]? = some y→x=y):numsB a b=true:=by
 unfold numsB;refine decide_eq_true (List.ext_getElem hl fun k h1 h2=>h k _ _ (List.getElem?_eq_getElem h1) (List.getElem?_eq_getElem h2))
theorem Q5 (v1 v2:Value) (l1 l2:List Int) (w:World) (h1:Zd w v1 l1) (h2:Zd w v2 l2):Calls prog 123 #[v1,v2] w (ZD (numsB l1 l2) w):=by
 have ho:=h1.len;have hn:=h2.len;obtain⟨a1,c1,rfl⟩:=Zc h1;obtain⟨a2,c2,rfl⟩:=Zc h2;have H1:=hid (Zr h1).2;have H2:=hid (Zr h2).2;unfold maxLen at ho hn;obtain⟨n1,hg⟩:∃ n,l1.length=n:=⟨_,rfl⟩
 obtain⟨n2,hf⟩:∃ n,l2.length=n:=⟨_,rfl⟩
 have hb:=hid hg;have hd:=hid hf;rw[hg]at ho ⊢;rw[hf]at hn ⊢;clear h1 h2 hg hf;by_cases hl:n1=n2
 ·subst hl;go_enter func123,ntmps123
  have hp:((n1:Int) != (n1:Int))=false:=by simp
  go_wp2
  go_loopw [13] (fun i wr=>∃ k:Nat,k≤n1∧i=.int .i64 k∧(∀ (j:Nat) (x y:Int),j<k→l1[j]? = some x→l2[j]? = some y→x=y)∧Since w wr) (fun i _=>n1-(intOf i).toNat)
  case atStart=>exact⟨0,Nat.zero_le _,rfl,fun _ _ _ h=>by omega,.refl _⟩
  case round =>
   exact zi
 ·have hp:((n1:Int) != (n2:Int))=true:=by simp;omega
  have HF:=hid (QO (a:=l1) (b:=l2) (by rw[hb.out,hd.out];exact hl));clear hl;go_enter func123,ntmps123
  go_wp2
  go_ret
  exact⟨by rw[HF.out];rfl,.refl _⟩
theorem QI (v1 v2:Value) (l1 l2:List Int) (w:World) (h1:Zd w v1 l1) (h2:Zd w v2 l2):Calls prog 146 #[v1,v2] w (ZD (numsB l1 l2) w):=by
 have ho:=h1.len;have hn:=h2.len;obtain⟨a1,c1,rfl⟩:=Zc h1;obtain⟨a2,c2,rfl⟩:=Zc h2;have H1:=hid (Zr h1).2;have H2:=hid (Zr h2).2;unfold maxLen at ho hn;obtain⟨n1,hg⟩:∃ n,l1.length=n:=⟨_,rfl⟩
 obtain⟨n2,hf⟩:∃ n,l2.length=n:=⟨_,rfl⟩
 have hb:=hid hg;have hd:=hid hf;rw[hg]at ho ⊢;rw[hf]at hn ⊢;clear h1 h2 hg hf;by_cases hl:n1=n2
 ·subst hl;go_enter func146,ntmps146
  have hp:((n1:Int) != (n1:Int))=false:=by simp
  go_wp2
  go_loopw [5] (fun i wr=>∃ k:Nat,k≤n1∧i=.int .i64 k∧(∀ (j:Nat) (x y:Int),j<k→l1[j]? = some x→l2[j]? = some y→x=y)∧Since w wr) (fun i _=>n1-(intOf i).toNat)
  case atStart=>exact⟨0,Nat.zero_le _,rfl,fun _ _ _ h=>by omega,.refl _⟩
  case round =>
   exact zi
 ·have hp:((n1:Int) != (n2:Int))=true:=by simp;omega
  have HF:=hid (QO (a:=l1) (b:=l2) (by rw[hb.out,hd.out];exact hl));clear hl;go_enter func146,ntmps146
  go_wp2
  go_ret
  exact⟨by rw[HF.out];rfl,.refl _⟩
def plv (x:PlV):Value:=.agg #[.int .i64 x.m.op,.int .i64 x.m.d,.int .i64 x.m.e,.int .i64 x.m.a,.int .i64 x.m.b,.int .i64 x.m.c,.int .i32 x.m.imm,x.av,.int .i64 x.src]
def Yp (e:ZY):Value:=.agg #[.int .i64 e.op,.int .i64 e.a,.int .i64 e.b,e.tov,.int .i32 e.imm]
def Xu (x y:Mach):Bool:=x.op==y.op&&(x.d==y.d&&(x.e==y.e&&(x.a==y.a&&(x.b==y.b&&(x.c==y.c&&(x.imm==y.imm&&numsB x.args y.args))))))
def Y8 (x y:PlV):Bool:=x.src==y.src&&Xu x.m y.m
def YZ (x y:ZY):Bool:=x.op==y.op&&(x.a==y.a&&(x.b==y.b&&(x.imm==y.imm&&numsB x.to y.to)))
theorem ZeV (x y:PlV) (w:World) (hx:Zd w x.av x.m.args) (hy:Zd w y.av y.m.args) (h0:(x.src==y.src)=false):Calls prog 122 #[plv x,plv y] w (ZD false w):=by
 obtain⟨⟨o1,d1,e1,a1,b1,c1,i1,l1⟩,v1,s1⟩:=x;obtain⟨⟨o2,d2,e2,a2,b2,c2,i2,l2⟩,v2,s2⟩:=y;obtain⟨q1,k1,hb⟩:=Zc hx;obtain⟨q2,k2,ha⟩:=Zc hy;dsimp only at hb ha h0;exact zG
theorem ZeU (x y:PlV) (w:World) (hx:Zd w x.av x.m.args) (hy:Zd w y.av y.m.args) (h0:(x.src==y.src)=true) (h1:(x.m.op==y.m.op)=false):Calls prog 122 #[plv x,plv y] w (ZD false w):=by
 obtain⟨⟨o1,d1,e1,a1,b1,c1,i1,l1⟩,v1,s1⟩:=x;obtain⟨⟨o2,d2,e2,a2,b2,c2,i2,l2⟩,v2,s2⟩:=y;obtain⟨q1,k1,hb⟩:=Zc hx;obtain⟨q2,k2,ha⟩:=Zc hy;dsimp only at hb ha h0 h1;exact zG
theorem ZeT (x y:PlV) (w:World) (hx:Zd w x.av x.m.args) (hy:Zd w y.av y.m.args) (h0:(x.src==y.src)=true) (h1:(x.m.op==y.m.op)=true) (h2:(x.m.d==y.m.d)=false):Calls prog 122 #[plv x,plv y] w (ZD false w):=by
 obtain⟨⟨o1,d1,e1,a1,b1,c1,i1,l1⟩,v1,s1⟩:=x;obtain⟨⟨o2,d2,e2,a2,b2,c2,i2,l2⟩,v2,s2⟩:=y;obtain⟨q1,k1,hb⟩:=Zc hx;obtain⟨q2,k2,ha⟩:=Zc hy;dsimp only at hb ha h0 h1 h2;exact zG
theorem ZeS (x y:PlV) (w:World) (hx:Zd w x.av x.m.args) (hy:Zd w y.av y.m.args) (h0:(x.src==y.src)=true) (h1:(x.m.op==y.m.op)=true) (h2:(x.m.d==y.m.d)=true) (h3:(x.m.e==y.m.e)=false):Calls prog 122 #[plv x,plv y] w (ZD false w):=by
 obtain⟨⟨o1,d1,e1,a1,b1,c1,i1,l1⟩,v1,s1⟩:=x;obtain⟨⟨o2,d2,e2,a2,b2,c2,i2,l2⟩,v2,s2⟩:=y;obtain⟨q1,k1,hb⟩:=Zc hx;obtain⟨q2,k2,ha⟩:=Zc hy;dsimp only at hb ha h0 h1 h2 h3;exact zG
theorem ZeR (x y:PlV) (w:World) (hx:Zd w x.av x.m.args) (hy:Zd w y.av y.m.args) (h0:(x.src==y.src)=true) (h1:(x.m.op==y.m.op)=true) (h2:(x.m.d==y.m.d)=true) (h3:(x.m.e==y.m.e)=true) (h4:(x.m.a==y.m.a)=false):Calls prog 122 #[plv x,plv y] w (ZD false w):=by
 obtain⟨⟨o1,d1,e1,a1,b1,c1,i1,l1⟩,v1,s1⟩:=x;obtain⟨⟨o2,d2,e2,a2,b2,c2,i2,l2⟩,v2,s2⟩:=y;obtain⟨q1,k1,hb⟩:=Zc hx;obtain⟨q2,k2,ha⟩:=Zc hy;dsimp only at hb ha h0 h1 h2 h3 h4;exact zG
theorem ZeQ (x y:PlV) (w:World) (hx:Zd w x.av x.m.args) (hy:Zd w y.av y.m.args) (h0:(x.src==y.src)=true) (h1:(x.m.op==y.m.op)=true) (h2:(x.m.d==y.m.d)=true) (h3:(x.m.e==y.m.e)=true) (h4:(x.m.a==y.m.a)=true) (h5:(x.m.b==y.m.b)=false):Calls prog 122 #[plv x,plv y] w (ZD false w):=by
 obtain⟨⟨o1,d1,e1,a1,b1,c1,i1,l1⟩,v1,s1⟩:=x;obtain⟨⟨o2,d2,e2,a2,b2,c2,i2,l2⟩,v2,s2⟩:=y;obtain⟨q1,k1,hb⟩:=Zc hx;obtain⟨q2,k2,ha⟩:=Zc hy;dsimp only at hb ha h0 h1 h2 h3 h4 h5;exact zG
theorem ZeP (x y:PlV) (w:World) (hx:Zd w x.av x.m.args) (hy:Zd w y.av y.m.args) (h0:(x.src==y.src)=true) (h1:(x.m.op==y.m.op)=true) (h2:(x.m.d==y.m.d)=true) (h3:(x.m.e==y.m.e)=true) (h4:(x.m.a==y.m.a)=true) (h5:(x.m.b==y.m.b)=true) (h6:(x.m.c==y.m.c)=false):Calls prog 122 #[plv x,plv y] w (ZD false w):=by
 obtain⟨⟨o1,d1,e1,a1,b1,c1,i1,l1⟩,v1,s1⟩:=x;obtain⟨⟨o2,d2,e2,a2,b2,c2,i2,l2⟩,v2,s2⟩:=y;obtain⟨q1,k1,hb⟩:=Zc hx;obtain⟨q2,k2,ha⟩:=Zc hy;dsimp only at hb ha h0 h1 h2 h3 h4 h5 h6;exact zG
theorem ZeO (x y:PlV) (w:World) (hx:Zd w x.av x.m.args) (hy:Zd w y.av y.m.args) (h0:(x.src==y.src)=true) (h1:(x.m.op==y.m.op)=true) (h2:(x.m.d==y.m.d)=true) (h3:(x.m.e==y.m.e)=true) (h4:(x.m.a==y.m.a)=true) (h5:(x.m.b==y.m.b)=true) (h6:(x.m.c==y.m.c)=true) (h7:(x.m.imm==y.m.imm)=false):Calls prog 122 #[plv x,plv y] w (ZD false w):=by
 obtain⟨⟨o1,d1,e1,a1,b1,c1,i1,l1⟩,v1,s1⟩:=x;obtain⟨⟨o2,d2,e2,a2,b2,c2,i2,l2⟩,v2,s2⟩:=y;obtain⟨q1,k1,hb⟩:=Zc hx;obtain⟨q2,k2,ha⟩:=Zc hy;dsimp only at hb ha h0 h1 h2 h3 h4 h5 h6 h7;exact zG
theorem ZeN (x y:PlV) (w:World) (hx:Zd w x.av x.m.args) (hy:Zd w y.av y.m.args) (h0:(x.src==y.src)=true) (h1:(x.m.op==y.m.op)=true) (h2:(x.m.d==y.m.d)=true) (h3:(x.m.e==y.m.e)=true) (h4:(x.m.a==y.m.a)=true) (h5:(x.m.b==y.m.b)=true) (h6:(x.m.c==y.m.c)=true) (h7:(x.m.imm==y.m.imm)=true):Calls prog 122 #[plv x,plv y] w (ZD (numsB x.m.args y.m.args) w):=by
 obtain⟨⟨o1,d1,e1,a1,b1,c1,i1,l1⟩,v1,s1⟩:=x;obtain⟨⟨o2,d2,e2,a2,b2,c2,i2,l2⟩,v2,s2⟩:=y;obtain⟨q1,k1,hb⟩:=Zc hx;obtain⟨q2,k2,ha⟩:=Zc hy;dsimp only at hb ha h0 h1 h2 h3 h4 h5 h6 h7;subst hb;subst ha;have HX:=hid hx;have HY:=hid hy;clear hx hy;unfold plv;dsimp only;go_enter func122,ntmps122
 go_wp2_with fail
 go_region
 all_goals
  go_wp2_with fail
  refine (Q5 _ _ _ _ _ (HX.out.keep (((((Since.refl _).alloc _).alloc _).alloc _).alloc _).drew) (HY.out.keep (((((Since.refl _).alloc _).alloc _).alloc _).alloc _).drew)).mono ?_;rintro e w1 ⟨rfl,hc⟩;go_wp2
  go_ret
  exact⟨rfl,(((((Since.refl _).alloc _).alloc _).alloc _).alloc _).drew.trans hc⟩
theorem ZbF (x y:PlV) (w:World) (hx:Zd w x.av x.m.args) (hy:Zd w y.av y.m.args):Calls prog 122 #[plv x,plv y] w (ZD (Y8 x y) w):=by
 unfold Y8 Xu
 cases h0:(x.src==y.src) with
 | false=>exact ZeV x y w hx hy h0
 | true =>
  cases h1:(x.m.op==y.m.op) with
  | false=>exact ZeU x y w hx hy h0 h1
  | true =>
   cases h2:(x.m.d==y.m.d) with
   | false=>exact ZeT x y w hx hy h0 h1 h2
   | true =>
    cases h3:(x.m.e==y.m.e) with
    | false=>exact ZeS x y w hx hy h0 h1 h2 h3
    | true =>
     cases h4:(x.m.a==y.m.a) with
     | false=>exact ZeR x y w hx hy h0 h1 h2 h3 h4
     | true =>
      cases h5:(x.m.b==y.m.b) with
      | false=>exact ZeQ x y w hx hy h0 h1 h2 h3 h4 h5
      | true =>
       cases h6:(x.m.c==y.m.c) with
       | false=>exact ZeP x y w hx hy h0 h1 h2 h3 h4 h5 h6
       | true =>
        cases h7:(x.m.imm==y.m.imm) with
        | false=>exact ZeO x y w hx hy h0 h1 h2 h3 h4 h5 h6 h7
        | true =>
         exact ZeN x y w hx hy h0 h1 h2 h3 h4 h5 h6 h7
theorem ZcG (x y:ZY) (w:World) (hx:Zd w x.tov x.to) (hy:Zd w y.tov y.to) (h0:(x.op==y.op)=false):Calls prog 85 #[Yp x,Yp y] w (ZD false w):=by
 obtain⟨o1,a1,b1,l1,v1,i1⟩:=x;obtain⟨o2,a2,b2,l2,v2,i2⟩:=y;obtain⟨q1,k1,hb⟩:=Zc hx;obtain⟨q2,k2,ha⟩:=Zc hy;dsimp only at hb ha h0;exact qq
theorem ZcF (x y:ZY) (w:World) (hx:Zd w x.tov x.to) (hy:Zd w y.tov y.to) (h0:(x.op==y.op)=true) (h1:(x.a==y.a)=false):Calls prog 85 #[Yp x,Yp y] w (ZD false w):=by
 obtain⟨o1,a1,b1,l1,v1,i1⟩:=x;obtain⟨o2,a2,b2,l2,v2,i2⟩:=y;obtain⟨q1,k1,hb⟩:=Zc hx;obtain⟨q2,k2,ha⟩:=Zc hy;dsimp only at hb ha h0 h1;exact qq
theorem ZcE (x y:ZY) (w:World) (hx:Zd w x.tov x.to) (hy:Zd w y.tov y.to) (h0:(x.op==y.op)=true) (h1:(x.a==y.a)=true) (h2:(x.b==y.b)=false):Calls prog 85 #[Yp x,Yp y] w (ZD false w):=by
 obtain⟨o1,a1,b1,l1,v1,i1⟩:=x;obtain⟨o2,a2,b2,l2,v2,i2⟩:=y;obtain⟨q1,k1,hb⟩:=Zc hx;obtain⟨q2,k2,ha⟩:=Zc hy;dsimp only at hb ha h0 h1 h2;exact qq
theorem ZcD (x y:ZY) (w:World) (hx:Zd w x.tov x.to) (hy:Zd w y.tov y.to) (h0:(x.op==y.op)=true) (h1:(x.a==y.a)=true) (h2:(x.b==y.b)=true) (h3:(x.imm==y.imm)=false):Calls prog 85 #[Yp x,Yp y] w (ZD false w):=by
 obtain⟨o1,a1,b1,l1,v1,i1⟩:=x;obtain⟨o2,a2,b2,l2,v2,i2⟩:=y;obtain⟨q1,k1,hb⟩:=Zc hx;obtain⟨q2,k2,ha⟩:=Zc hy;dsimp only at hb ha h0 h1 h2 h3;exact qq
theorem ZcC (x y:ZY) (w:World) (hx:Zd w x.tov x.to) (hy:Zd w y.tov y.to) (h0:(x.op==y.op)=true) (h1:(x.a==y.a)=true) (h2:(x.b==y.b)=true) (h3:(x.imm==y.imm)=true):Calls prog 85 #[Yp x,Yp y] w (ZD (numsB x.to y.to) w):=by
 obtain⟨o1,a1,b1,l1,v1,i1⟩:=x;obtain⟨o2,a2,b2,l2,v2,i2⟩:=y;obtain⟨q1,k1,hb⟩:=Zc hx;obtain⟨q2,k2,ha⟩:=Zc hy;dsimp only at hb ha h0 h1 h2 h3;subst hb;subst ha;have HX:=hid hx;have HY:=hid hy;clear hx hy;unfold Yp;dsimp only;go_enter func85,ntmps85
 go_wp2_with fail
 refine (Q5 _ _ _ _ _ (HX.out.keep (((Since.refl _).alloc _).alloc _)) (HY.out.keep (((Since.refl _).alloc _).alloc _))).mono ?_;rintro e w1 ⟨rfl,hc⟩;go_wp2
 go_ret
 exact⟨rfl,(((Since.refl _).alloc _).alloc _).trans hc⟩
theorem Za7 (x y:ZY) (w:World) (hx:Zd w x.tov x.to) (hy:Zd w y.tov y.to):Calls prog 85 #[Yp x,Yp y] w (ZD (YZ x y) w):=by
 unfold YZ
 cases h0:(x.op==y.op) with
 | false=>exact ZcG x y w hx hy h0
 | true =>
  cases h1:(x.a==y.a) with
  | false=>exact ZcF x y w hx hy h0 h1
  | true =>
   cases h2:(x.b==y.b) with
   | false=>exact ZcE x y w hx hy h0 h1 h2
   | true =>
    cases h3:(x.imm==y.imm) with
    | false=>exact ZcD x y w hx hy h0 h1 h2 h3
    | true =>
     exact ZcC x y w hx hy h0 h1 h2 h3
open Go.RowKit Go.Shelf
def leftsTo (l:List PlV) (found:List Bool) (k:Nat):List (Fin l.length):=(List.range k).filterMap fun j=>if h:j<l.length then (if found.getD j true then none else some ⟨j,h⟩) else none
theorem YU {l : List PlV} {found:List Bool} {k : Nat} (h:k<l.length):leftsTo l found (k+1)=leftsTo l found k++(if found.getD k true then [] else [⟨k,h⟩]):=by
 unfold leftsTo;rw[List.range_succ,List.filterMap_append];congr 1
 by_cases hf:found.getD k true=true
 ·have ha:found[k]?.getD true=true:=by rw[←List.getD_eq_getElem?_getD];exact hf
  simp[List.filterMap,h,ha]
 ·have ha:found[k]?.getD true=false:=by rw[←List.getD_eq_getElem?_getD];simpa using hf
  simp[List.filterMap,h,ha]
theorem Vz (l:List PlV) (found:List Bool) {k n:Nat} (h:k≤n):leftsTo l found k <+: leftsTo l found n:=by
 obtain⟨d,rfl⟩:=Nat.exists_eq_add_of_le h;unfold leftsTo;rw[List.range_add,List.filterMap_append];exact List.prefix_append _ _
theorem Zbf (l:List PlV) (found:List Bool) (k:Nat):(leftsTo l found k).length≤k:=by
 unfold leftsTo;have:=List.length_filterMap_le (fun j=>if h:j<l.length then (if found.getD j true then none else some (⟨j,h⟩:Fin l.length)) else none) (List.range k)
 simpa using this
def YR (l:List PlV) (x:PlV):List (Fin l.length)→Int
 | []=>-1
 | k::r=>if Y8 x (l.get k) then (k.val:Int) else if Zw (l.get k).m x.m then -1 else YR l x r
def noB (l:List PlV) (x:PlV) (k:Fin l.length):Bool:=!Y8 x (l.get k)&&!Zw (l.get k).m x.m
theorem WU {l : List PlV} {x : PlV}:∀ {pre:List (Fin l.length)} (r:List (Fin l.length)),(∀ k∈pre,noB l x k=true)→YR l x (pre++r)=YR l x r
 | [],_,_=>rfl
 | k::pre,r,h=>by
  have h1:=h k List.mem_cons_self
  unfold noB at h1
  simp only[Bool.and_eq_true,Bool.not_eq_true']at h1
  rw[List.cons_append]
  show (if Y8 x (l.get k) then (k.val:Int) else if Zw (l.get k).m x.m then -1 else YR l x (pre++r))=_
  rw[h1.1,h1.2]
  exact WU r fun y hy=>h y (List.mem_cons_of_mem _ hy)
def findI (l:List PlV) (found:List Bool) (x:PlV):Int:=YR l x (leftsTo l found l.length)
theorem Z9 {W : World} {B : Nat} {o : Obj} (h:W.heap[B]? = some o):B<W.heap.size:=(Array.getElem?_eq_some_iff.1 h).1
theorem VB {W W':World} (h:Below W.heap.size W W') (B:Nat):KeepsFrom B W W':=⟨h.size,fun k o _ hk _=>(h.block k (Z9 hk)).trans hk⟩
theorem Zey (F:Fence) (n:Nat) (hF:F.fn 121) (ha:F.round=none) (a a2:Option Addr) (l1 l2 c1 c2:Nat) (w:World) :
  CallsIn F n prog 121 #[.slice a l1 c1,.slice a2 l2 c2] w fun e w'=>e=.returned (.func (.func 147) #[] #[.pointer (some ⟨w.heap.size,0,none⟩),.pointer (some ⟨w.heap.size+1,0,none⟩)])∧w'=(w.alloc (.cells #[.slice a l1 c1] 30)).alloc (.cells #[.slice a2 l2 c2] 144):=by
 refine callsIn_of_wp func121 rfl hF ?_ ha;simp only[ntmps121,List.size_toArray,List.length_cons,List.length_nil,Nat.reduceAdd,Nat.reduceSub,Array.replicate_succ,Array.replicate_zero,List.push_toArray,List.append_toArray,List.nil_append,List.cons_append]
 gi_wp2
 go_ret
 exact⟨rfl,rfl⟩
attribute [local go_sem] Oper.semAt_some
theorem ZdT (F:Fence) (n:Nat) (hF:F.fn 147) (hO:F.round=none) (hn:1≤n) (lk Bl Bf n₀ cap fb:Nat) (a:Option Addr) (l:List PlV) (found:List Bool) (hm:found.length=l.length) (hl:l.length≤9223372036854775807) (hQ:fb<n₀) (J Jx:List (Fin l.length)→World→Prop)
  (hY:∀ pre x W,J pre W→pre.length<l.length→YieldAt F (n-1) prog lk #[.int .i64 (x.val:Int),plv (l.get x)] W fun e W' =>
   (e=.returned (.bool true)∧J (pre++[x]) W'∧Below n₀ W W')∨(e=.returned (.bool false)∧Jx (pre++[x]) W'))
  (W:World) (hC:∀ (s:List (Fin l.length)) (X:World) (o:Obj),J s X→J s (X.alloc o)) (hn₀:n₀≤W.heap.size) (hD:W.cell? ⟨Bl,0,none⟩=some (.slice a l.length cap)) (hE:W.cell? ⟨Bf,0,none⟩=some (.slice (some ⟨fb,0,none⟩) l.length l.length)) (hM:Bf<n₀)
  (hc:∀ (j:Nat) (x:PlV),l[j]? = some x→∃ b off,a=some ⟨b,off,none⟩∧b<n₀∧∀ t,t<9→W.cell? ⟨b,off+j*9+t,none⟩=(plcells x)[t]?) (hB:∀ x∈l,∃ a c,x.av=.slice a x.m.args.length c)
  (hv:∀ (j:Nat) (x:Bool),found[j]? = some x→W.cell? ⟨fb,j,none⟩=some (.bool x)) (h0:J [] W) :
  CallsIn F n prog 147 #[.func (.yield lk) #[] #[],.pointer (some ⟨Bl,0,none⟩),.pointer (some ⟨Bf,0,none⟩)] W fun e W'=>(∃ v,e=.returned v) ∧
   ((∃ ys,ys=leftsTo l found l.length∧J ys W')∨(∃ pre,pre <+: leftsTo l found l.length∧Jx pre W')):=by
 obtain⟨len,hg⟩:∃ x,l.length=x:=⟨_,rfl⟩
 have hH:=hid hg;have HC:=hid hc;have hW:=hid hB;have hV:=hid hv;have hN:=hid hm;have hI:=hid hC;have HY:=hid hY;clear hc hv hm hC hY hB;have h4:W.cell? ⟨Bl,0,none⟩=some (.slice a len cap):=by rw[hD,hg]
 have hS:W.cell? ⟨Bf,0,none⟩=some (.slice (some ⟨fb,0,none⟩) len len):=by rw[hE,hg]
 have h1:len≤9223372036854775807:=zaK
 clear hD hE hg hl;refine callsIn_of_wp func147 rfl hF ?_ hO;simp only[ntmps147,List.size_toArray,List.length_cons,List.length_nil,Nat.reduceAdd,Nat.reduceSub,Array.replicate_succ,Array.replicate_zero,List.push_toArray,List.append_toArray,List.nil_append,List.cons_append]
 gi_wp2
 gi_loopw [8] (fun i wr=>∃ k:Nat,k≤len∧i=.int .i64 k∧J (leftsTo l found k) wr∧Below n₀ W wr) (fun i _=>len-(intOf i).toNat)
 case atStart=>exact⟨0,Nat.zero_le _,rfl,h0,Below.refl _ _⟩
 case round =>
  obtain⟨k,hk,rfl,hh,hd⟩:=hrel;by_cases h2:k<len
  ·have hf:k<l.length:=by have:=hH.out;omega
   obtain⟨x,hx⟩:∃ x,x=l.get ⟨k,hf⟩:=⟨_,rfl⟩
   have hi:l[k]? = some x:=by rw[hx];exact List.getElem?_eq_getElem hf
   obtain⟨fk,ho⟩:∃ fk,found[k]? = some fk:=⟨_,List.getElem?_eq_getElem (by have:=hN.out;omega)⟩
   have hu:found.getD k true=fk:=by rw[List.getD_eq_getElem?_getD,ho];rfl
   have hj:=YU (found:=found) hf;rw[hu]at hj;obtain⟨b,off,rfl,hb,hw⟩:=HC.out k x hi;have ha:=fun t ht=>(hd.cell (p:=⟨b,off+k*9+t,none⟩) hb).trans (hw t ht)
   have hz:wr.cell? ⟨fb,k,none⟩=some (.bool fk):=(hd.cell (p:=⟨fb,k,none⟩) hQ).trans (hV.out k fk ho);have hA:wr.cell? ⟨Bf,0,none⟩=some (.slice (some ⟨fb,0,none⟩) len len):=(hd.cell (p:=⟨Bf,0,none⟩) hM).trans hS;have h3:b<wr.heap.size:=by have:=hd.size;omega
   have hJ:fb<wr.heap.size:=by have:=hd.size;omega
   have hL:Bf<wr.heap.size:=by have:=hd.size;omega
   obtain⟨xa,xc,hs⟩:=hW.out x (List.mem_of_getElem? hi);have hq:=HY.out (leftsTo l found k) ⟨k,hf⟩;rw[←hx]at hq;have he:=hq (wr.alloc (.cells (plcells x).toArray 38)) (hI.out _ _ _ hh) (by have:=Zbf l found k;omega);obtain⟨⟨o1,d1,e1,a1,b1,c1,i1,ar⟩,av,sr⟩:=x;dsimp only at hs;subst hs;obtain⟨al,hp⟩:∃ x,ar.length=x:=⟨_,rfl⟩
   have k0:wr.cell? ⟨b,off+k*9,none⟩=some (.int .i64 o1):=ha 0 zaJ;have k1:wr.cell? ⟨b,off+k*9+1,none⟩=some (.int .i64 d1):=ha 1 zaJ;have k2:wr.cell? ⟨b,off+k*9+2,none⟩=some (.int .i64 e1):=ha 2 zaJ;have k3:wr.cell? ⟨b,off+k*9+3,none⟩=some (.int .i64 a1):=ha 3 zaJ;have k4:wr.cell? ⟨b,off+k*9+4,none⟩=some (.int .i64 b1):=ha 4 zaJ;have k5:wr.cell? ⟨b,off+k*9+5,none⟩=some (.int .i64 c1):=ha 5 zaJ;have k6:wr.cell? ⟨b,off+k*9+6,none⟩=some (.int .i32 i1):=ha 6 zaJ;have k7:wr.cell? ⟨b,off+k*9+7,none⟩=some (.slice xa al xc):=by rw[←hp];exact ha 7 zaJ
   have k8:wr.cell? ⟨b,off+k*9+8,none⟩=some (.int .i64 sr):=ha 8 zaJ;have hZ:(wr.alloc (.cells #[.int .i64 o1,.int .i64 d1,.int .i64 e1,.int .i64 a1,.int .i64 b1,.int .i64 c1,.int .i32 i1,.slice xa al xc,.int .i64 sr] 38)).cell? ⟨Bf,0,none⟩=some (.slice (some ⟨fb,0,none⟩) len len):=by
    rw[←hA];exact (Since.alloc (Since.refl wr) _).cell (p:=⟨Bf,0,none⟩) hL
   have hX:(wr.alloc (.cells #[.int .i64 o1,.int .i64 d1,.int .i64 e1,.int .i64 a1,.int .i64 b1,.int .i64 c1,.int .i32 i1,.slice xa al xc,.int .i64 sr] 38)).cell? ⟨fb,k,none⟩=some (.bool fk):=by
    rw[←hz];exact (Since.alloc (Since.refl wr) _).cell (p:=⟨fb,k,none⟩) hJ
   have hU:=hid (hI.out _ _ (.cells #[.int .i64 o1,.int .i64 d1,.int .i64 e1,.int .i64 a1,.int .i64 b1,.int .i64 c1,.int .i32 i1,.slice xa al xc,.int .i64 sr] 38) hh);have hG:=hid (hd.alloc (Nat.le_trans hn₀ hd.size) (.cells #[.int .i64 o1,.int .i64 d1,.int .i64 e1,.int .i64 a1,.int .i64 b1,.int .i64 c1,.int .i32 i1,.slice xa al xc,.int .i64 sr] 38));unfold plv at he;dsimp only[plcells]at he;rw[hp]at he;have hr:=hid hj;clear ha hw hz hA hi ho hu hj hq hx hp hd hh
   cases fk
   ·obtain⟨fn,tmps,assign,body,hy,hR⟩:=he
    gi_wp2
    refine hR.mono ?_;rintro e W3 (⟨rfl,hT,hP⟩|⟨rfl,hK⟩)
    ·gi_wp2
     go_roundw
     case rel=>exact⟨k+1,zaK,by go_num,by rw[hr.out];exact hT,hG.out.trans hP⟩
     case measure=>simp[intOf];omega
    ·gi_wp2
     refine bodyPost_ret (results_none rfl _ _ _) rfl ?_;exact⟨⟨_,rfl⟩,.inr ⟨_,by have h5:=Vz l found (show k+1≤l.length from hf);rw[hr.out]at h5;exact h5,hK⟩⟩
   ·clear he
    gi_wp2
    refine⟨fun _ h=>(by cases h),?_⟩
    gi_wp2
    go_roundw
    case rel=>exact⟨k+1,zaK,by go_num,by rw[hr.out,if_pos True.intro,List.append_nil];exact hU.out,hG.out⟩
    case measure=>simp[intOf];omega
  ·obtain rfl:k=len:=zaK
   gi_wp2
   go_end0
   exact⟨⟨_,rfl⟩,.inl ⟨_,congrArg (leftsTo l found) hH.out.symm,hh⟩⟩
theorem Ka {β:Type} (B:Nat) (cs:Array Value) (t:TypeId):Own (fun (_:β) W=>W.heap[B]? = some (.cells cs t (0,0))):=fun s X Y row hs hg ha =>
 (hg.block B (Z9 hs) (fun e=>by obtain⟨o,ho,hc⟩:=ha B e.symm;rw[hs]at ho;cases ho;cases hc)).trans hs
theorem ZX {W : World} {B : Nat} {cs:Array Value} {t : TypeId} (h:W.heap[B]? = some (.cells cs t (0,0))) (i:Nat):W.cell? ⟨B,i,none⟩=cs[i]?:=by simp[World.cell?,h]
def Zfj (k:Int) (w:World) (e:Ending) (w':World):Prop:=e=.returned (.int .i64 k)∧Since w w'
theorem Zd0 (lv:Value) (l:List PlV) (fb:Nat) (found:List Bool) (x:PlV) (w:World) (hl:Pls w lv l) (hN:found.length=l.length) (hf:w.heap[fb]? = some (.cells (found.map Value.bool).toArray 4 (0,0))) (hx:XA w x) :
  Calls prog 84 #[lv,.slice (some ⟨fb,0,none⟩) l.length l.length,plv x] w (Zfj (findI l found x) w):=by
 obtain⟨a,cap,Hq,hM⟩:=hl.shape;subst Hq;unfold maxLen at hM;obtain⟨n,hn⟩:∃ n,l.length=n:=⟨_,rfl⟩
 have HL:=hid hl;have HX:=hid hx;have HF:=hid hf;have HN:=hid hn;have Hn:=hid hN;have Ht:=Z9 hf;have Ho:n≤9223372036854775807:=zaK
 rw[hn];clear hl hf hN hM hn;obtain⟨⟨xo,xd,xe,xa,xb,xc,xi,xr⟩,xv,xs⟩:=x;obtain⟨xva,xvc,h6⟩:=Zc hx.1;dsimp only at h6;subst h6;obtain⟨xl,hH⟩:∃ q,xr.length=q:=⟨_,rfl⟩
 have Hg:=hid hH;unfold plv;dsimp only;rw[hH];clear hx hH;refine (callsIn_wide (n:=6)).1 ?_;refine callsIn_of_wp_marks func84 rfl trivial ?_ rfl;simp only[ntmps84,List.size_toArray,List.length_cons,List.length_nil,Nat.reduceAdd,Nat.reduceSub,Array.replicate_succ,Array.replicate_zero,List.push_toArray,List.append_toArray,List.nil_append,List.cons_append]
 gi_wp2_with fail
 refine⟨trivial,?_⟩;refine (Zey Fence.wide _ trivial rfl _ _ _ _ _ _ _).mono ?_;rintro e w' ⟨rfl,rfl⟩
 gi_wp2
 obtain⟨W0,hh⟩:∃ W0,(((w.alloc (.cells #[.int .i64 xo,.int .i64 xd,.int .i64 xe,.int .i64 xa,.int .i64 xb,.int .i64 xc,.int .i32 xi,.slice xva xl xvc,.int .i64 xs] 38)).alloc (.cells #[.int .i64 0] 3)).alloc (.cells #[.slice a n cap] 30)).alloc (.cells #[.slice (some ⟨fb,0,none⟩) n n] 144)=W0:=⟨_,rfl⟩
 have hL:Since w W0:=by rw[←hh];exact ((((Since.refl w).alloc _).alloc _).alloc _).alloc _
 have HG:W0.heap.size=w.heap.size+4:=by rw[←hh];simp
 have b0:W0.heap[w.heap.size]? = some (.cells #[.int .i64 xo,.int .i64 xd,.int .i64 xe,.int .i64 xa,.int .i64 xb,.int .i64 xc,.int .i32 xi,.slice xva xl xvc,.int .i64 xs] 38 (0,0)):=by
  rw[←hh];exact ((((Since.refl _).alloc _).alloc _).alloc _).block _ zaL |>.trans (ZG _ _)
 have b1:Boxed W0 (w.heap.size+1) 3 (.int .i64 0):=by
  have h:=Boxed.new (w.alloc (.cells #[.int .i64 xo,.int .i64 xd,.int .i64 xe,.int .i64 xa,.int .i64 xb,.int .i64 xc,.int .i32 xi,.slice xva xl xvc,.int .i64 xs] 38)) 3 (.int .i64 0);rw[World.size_alloc]at h;rw[←hh];exact (h.alloc _).alloc _
 have b2:W0.cell? ⟨w.heap.size+2,0,none⟩=some (.slice a n cap):=by
  have h:=Boxed.new ((w.alloc (.cells #[.int .i64 xo,.int .i64 xd,.int .i64 xe,.int .i64 xa,.int .i64 xb,.int .i64 xc,.int .i32 xi,.slice xva xl xvc,.int .i64 xs] 38)).alloc (.cells #[.int .i64 0] 3)) 30 (.slice a n cap);rw[World.size_alloc,World.size_alloc]at h;rw[←hh];exact (h.alloc _).cell
 have b3:W0.cell? ⟨w.heap.size+3,0,none⟩=some (.slice (some ⟨fb,0,none⟩) n n):=by
  have h:=Boxed.new (((w.alloc (.cells #[.int .i64 xo,.int .i64 xd,.int .i64 xe,.int .i64 xa,.int .i64 xb,.int .i64 xc,.int .i32 xi,.slice xva xl xvc,.int .i64 xs] 38)).alloc (.cells #[.int .i64 0] 3)).alloc (.cells #[.slice a n cap] 30)) 144 (.slice (some ⟨fb,0,none⟩) n n);rw[World.size_alloc,World.size_alloc,World.size_alloc]at h;rw[←hh];exact h.cell
 rw[hh];clear hh;obtain⟨X,hX⟩:∃ X:PlV,X={ m:={ op:=xo,d:=xd,e:=xe,a:=xa,b:=xb,c:=xc,imm:=xi,args:=xr },av:=Value.slice xva xl xvc,src:=xs }:=⟨_,rfl⟩
 have He:plv X=.agg #[.int .i64 xo,.int .i64 xd,.int .i64 xe,.int .i64 xa,.int .i64 xb,.int .i64 xc,.int .i32 xi,.slice xva xl xvc,.int .i64 xs]:=by rw[hX];rfl
 have Hf:mv X.m X.av=.agg #[.int .i64 xo,.int .i64 xd,.int .i64 xe,.int .i64 xa,.int .i64 xb,.int .i64 xc,.int .i32 xi,.slice xva xl xvc]:=by rw[hX];rfl
 have hP:XA w X:=by rw[hX,←Hg.out];exact HX.out
 rw[←hX];have Hv:=hid He;have Hx:=hid hX;have Hw:=hid Hf;have hE:=hid hP;clear hX He Hf hP HX Hg;have Hj:SeqStopsK Fence.wide (6-1) prog 147 #[.pointer (some ⟨w.heap.size+2,0,none⟩),.pointer (some ⟨w.heap.size+3,0,none⟩)] (fun k:Fin l.length=>#[.int .i64 (k.val:Int),plv (l.get k)]) (Below W0.heap.size) (fun ys=>ys=leftsTo l found l.length) (fun pre=>pre <+: leftsTo l found l.length) l.length W0:=by
  intro lk J Jx W hW hJ HS hY h0;have Hr:=hW.size;refine ZdT Fence.wide (6-1) trivial rfl zaJ lk (w.heap.size+2) (w.heap.size+3) W0.heap.size cap fb a l found Hn.out (by rw[HN.out];exact Ho) zaK J Jx hY W (fun s Y o hs=>hJ s Y _ none hs (World.grownBy_alloc Y o none) (fun r e=>by cases e)) Hr ?_ ?_ zaK ?_ ?_ ?_ h0
  ·rw[HN.out];exact (hW.cell (p:=⟨w.heap.size+2,0,none⟩) (by show w.heap.size+2<W0.heap.size;omega)).trans b2
  ·rw[HN.out];exact (hW.cell (p:=⟨w.heap.size+3,0,none⟩) (by show w.heap.size+3<W0.heap.size;omega)).trans b3
  ·intro j x hj;obtain⟨b,off,y,h1,h2,h3,h4,_⟩:=RowIn.at HL.out (List.getElem?_eq_some_iff.1 hj).1;rw[hj]at h3;obtain rfl:=Option.some.inj h3;exact⟨b,off,h1,zaK,fun t ht=>((hW.cell (p:=⟨b,off+j*9+t,none⟩) (by show b<W0.heap.size;omega)).trans (hL.cell h2)).trans (h4 t ht)⟩
  ·intro x hx;obtain⟨j,hj⟩:=List.getElem?_of_mem hx;obtain⟨b,off,y,h1,h2,h3,h4,h5⟩:=RowIn.at HL.out (List.getElem?_eq_some_iff.1 hj).1;rw[hj]at h3;obtain rfl:=Option.some.inj h3;exact Zc h5.1
  ·intro j x hj;refine ((hW.cell (p:=⟨fb,j,none⟩) (by show fb<W0.heap.size;omega)).trans (hL.cell Ht)).trans ?_;simp[World.cell?,HF.out,hj]
 have Ha:∀ k:Fin l.length,XA w (l.get k):=fun k=>by
  obtain⟨b,off,y,h1,h2,h3,h4,h5⟩:=RowIn.at HL.out k.isLt;rw[List.getElem?_eq_getElem k.isLt]at h3;obtain rfl:=Option.some.inj h3;exact h5
 have Hh:=hid Ha;clear Ha b2 b3;refine wpIn_rangeFunc_ownH rfl zaJ (gf:=147) (lb:=#[.pointer (some ⟨w.heap.size+2,0,none⟩),.pointer (some ⟨w.heap.size+3,0,none⟩)]) rfl trivial (enters_of func147 zaF rfl)
  Hj belowK_t (belowK_b (Nat.le_refl _)) (Below.refl _ _) (fun _=>rfl)
  (fun pre W=>((W.heap[w.heap.size]? = some (.cells #[.int .i64 xo,.int .i64 xd,.int .i64 xe,.int .i64 xa,.int .i64 xb,.int .i64 xc,.int .i32 xi,.slice xva xl xvc,.int .i64 xs] 38 (0,0))∧Boxed W (w.heap.size+1) 3 (.int .i64 0))∧(∀ k∈pre,noB l X k=true)∧W0.heap.size≤W.heap.size)∧Below w.heap.size w W)
  (fun c pre W=>(c=.ret∧∃ v,Boxed W (w.heap.size+1) 3 (.int .i64 v)∧∀ rest,YR l X (pre++rest)=v)∧Below w.heap.size w W)
  (OwnFrom.and (OwnFrom.and (OwnFrom.and (Own.from (Ka _ _ _) _) (Own.from (boxed_own _ _ _) _)) (fun _ _ _ _ hs hg _=>⟨hs.1,Nat.le_trans hs.2 hg.size⟩)) (ownFrom_below (Nat.le_refl _) zaK))
  (fun c=>OwnFrom.and (fun s A B row hs hg hr=>by obtain⟨h1,v,h2,h3⟩:=hs;exact⟨h1,v,boxed_own _ _ (fun _=>Value.int .i64 v) s A B row h2 hg (fun r e=>(hr r e).2),h3⟩) (ownFrom_below (Nat.le_refl _) zaK))
  ⟨⟨⟨b0,b1⟩,(fun k hk=>(by cases hk)),Nat.le_refl _⟩,hL⟩
  (fun k a' W=>∃ Bx,w.heap.size+1<Bx∧W.heap[Bx]? = some (.cells (plcells (l.get k)).toArray 38 (0,0))∧a'={ tmps:=#[.slice a n cap,.slice (some ⟨fb,0,none⟩) n n,.agg #[.int .i64 xo,.int .i64 xd,.int .i64 xe,.int .i64 xa,.int .i64 xb,.int .i64 xc,.int .i32 xi,.slice xva xl xvc,.int .i64 xs],undef,undef,.pointer (some ⟨w.heap.size,0,none⟩),.pointer (some ⟨w.heap.size+1,0,none⟩),.int .i64 (k.val:Int),.pointer (some ⟨Bx,0,none⟩),.slice a n cap,.slice (some ⟨fb,0,none⟩) n n,.func (.func 147) #[] #[.pointer (some ⟨w.heap.size+2,0,none⟩),.pointer (some ⟨w.heap.size+3,0,none⟩)],.int .i64 (k.val:Int),plv (l.get k),undef,undef,undef,undef,undef,undef,undef,undef,undef],defers:=[] })
  (fun k a' _ Y Z row hs hg hr=>by obtain⟨Bx,h1,h2,h3⟩:=hs;exact⟨Bx,h1,Ka Bx _ 38 () Y Z row h2 hg (fun r e=>(hr r e).2),h3⟩)
  ?assign ?body ?done ?stop
 case assign =>
  rintro lk pre k W K ⟨⟨⟨hd,ha⟩,he,hm⟩,hB⟩ hK;have Hl:=ha.lt;have Hm:=Z9 hd;have hz:=Hh.out k;have HK:=hid hK;have hI:∀ o,((((W.alloc o).heap[w.heap.size]? = some (.cells #[.int .i64 xo,.int .i64 xd,.int .i64 xe,.int .i64 xa,.int .i64 xb,.int .i64 xc,.int .i32 xi,.slice xva xl xvc,.int .i64 xs] 38 (0,0))∧Boxed (W.alloc o) (w.heap.size+1) 3 (.int .i64 0))∧(∀ k∈pre,noB l X k=true)∧W0.heap.size≤(W.alloc o).heap.size)∧Below w.heap.size w (W.alloc o)):=fun o =>
   ⟨⟨⟨((Since.refl W).alloc o).block _ Hm |>.trans hd,ha.alloc o⟩,he,by rw[World.size_alloc];omega⟩,hB.alloc hB.size o⟩
  have HI:=hid hI;clear hK hd ha he hI;obtain⟨Y,hY⟩:∃ Y,l.get k=Y:=⟨_,rfl⟩
  rw[hY]at hz HK ⊢;obtain⟨⟨yo,yd,ye,ya,yb,yc,yi,yr⟩,yv,ys⟩:=Y;obtain⟨yva,yvc,hp⟩:=Zc hz.1;dsimp only at hp;subst hp;obtain⟨yl,hq⟩:∃ q,yr.length=q:=⟨_,rfl⟩
  have Hp:w.heap.size+1<W.heap.size:=Hl;have HJ:=hB.size;clear hz hY;unfold plv at HK ⊢;dsimp only[plcells]at HK ⊢;rw[hq]at HK ⊢;clear hq
  gi_wp2
  exact HK.out _ _ ((KeepsOthers.alloc _ _).from _) ((Below.refl _ W).alloc zaK _) (HI.out _) ⟨W.heap.size,Hp,ZG _ _,rfl⟩
 case body =>
  rintro lk pre k a' W HO ⟨r,hr⟩ ⟨⟨⟨hd,ha⟩,he,hm⟩,hB⟩ ⟨Bx,HT,bX,rfl⟩ HM;have cx:=ZX hd;have lx:=Z9 hd;have HA:=hid he;have HB:=hid hB;have hU:=hid ha;have HC:=hid hd;obtain⟨Y,hY⟩:∃ Y,Y=l.get k:=⟨_,rfl⟩
  have hC:=Hh.out k;have h8:noB l X k=(!Y8 X Y&&!Zw Y.m X.m):=by rw[hY];rfl
  have h9:∀ rest,YR l X (pre++[k]++rest)=(if Y8 X Y then (k.val:Int) else if Zw Y.m X.m then -1 else YR l X rest):=fun rest=>by rw[List.append_assoc,WU _ he,hY];rfl
  rw[←hY]at bX hC ⊢;have hR:=hid h8;have hG:=hid h9;clear he hB ha hd h8 h9 hY;have ho:=hid hC;have Hu:plv Y=.agg (plcells Y).toArray:=rfl;have cy:=ZX bX;have ly:=Z9 bX;obtain⟨sm,h7⟩:∃ q,Y8 X Y=q:=⟨_,rfl⟩
  obtain⟨dp,Hc⟩:∃ q,Zw Y.m X.m=q:=⟨_,rfl⟩
  have hb:=ZbF X Y W (hE.out.1.keep HB.out) (ho.out.1.keep HB.out);have hc:=fun W2 (s:Since W W2)=>XF Y.m X.m Y.av X.av W2 (ho.out.1.keep (Since.trans HB.out s)) (hE.out.1.keep (Since.trans HB.out s)) ho.out.2.1 hE.out.2.1
  rw[h7]at hb hR hG;rw[Hc]at hc hR hG;rw[Hv.out]at hb;rw[Hw.out]at hc;obtain⟨⟨yo,yd,ye,ya,yb,yc,yi,yr⟩,yv,ys⟩:=Y;obtain⟨yva,yvc,hp⟩:=Zc ho.out.1;dsimp only at hp;subst hp;obtain⟨yl,hq⟩:∃ q,yr.length=q:=⟨_,rfl⟩
  unfold plv at hb ⊢;unfold mv at hc;dsimp only[plcells]at cy hb hc ⊢;rw[hq]at cy hb hc ⊢;have Hz:=hid hb;have Hy:=hid hc;have HD:w.heap.size+1<W.heap.size:=hU.out.lt;clear h7 Hc hb hc hq bX hC Hu
  gi_wp2_with fail
  refine⟨trivial,?_⟩;refine (CallsIn.inRound lk (callsIn_wide.2 Hz.out)).mono ?_;rintro e w1 ⟨rfl,hb⟩;have hF:=hid hb;have ha:Boxed w1 (w.heap.size+1) 3 (.int .i64 0):=(hb.block _ hU.out.lt).trans hU.out;have hT:=hid ha;have hu:=ha.cell;have Hb:=ha.frozen;have Hs:=ha.lt;have hV:W0.heap.size≤w1.heap.size:=Nat.le_trans hm hb.size;have HH:w.heap.size<w1.heap.size:=zaK
  have HE:Bx<w1.heap.size:=Nat.lt_of_lt_of_le ly hb.size;have cx1:=fun i=>(hb.cell (p:=⟨w.heap.size,i,none⟩) lx).trans (cx i)
  have cy1:=fun i=>(hb.cell (p:=⟨Bx,i,none⟩) ly).trans (cy i)
  clear hb ha cx cy
  cases sm
  ·gi_wp2_with fail
   refine⟨trivial,?_⟩;refine (CallsIn.inRound lk (callsIn_wide.2 (Hy.out w1 hF.out))).mono ?_;rintro e w2 ⟨rfl,hc⟩;have hi:=hid (Since.trans hF.out hc);have hw:Boxed w2 (w.heap.size+1) 3 (.int .i64 0):=(hc.block _ Hs).trans hT.out;have hS:=hid hw;have HR:=hw.cell;have HQ:=hw.frozen;have HP:=hw.lt;have Hi:W0.heap.size≤w2.heap.size:=Nat.le_trans hV hc.size;clear hc hw hu Hb cx1 cy1
   cases dp
   ·gi_wp2
    exact⟨VB hi.out _,hi.out.mono hm,⟨⟨(hi.out.block _ lx).trans HC.out,hS.out⟩,(fun y hy=>by
     rcases List.mem_append.1 hy with h|h
     ·exact HA.out y h
     ·obtain rfl:=List.mem_singleton.1 h;rw[hR.out];rfl),Hi⟩,HB.out.trans (hi.out.mono zaK)⟩
   ·gi_wp2
    refine⟨(VB hi.out _).trans ((KeepsOthers.setCell _ _ _).from _),⟨rfl,_,hS.out.set _,fun rest=>?_⟩,(HB.out.trans (hi.out.mono zaK)).setCell (p:=⟨w.heap.size+1,0,none⟩) zaL _⟩
    rw[hG.out];rfl
  ·gi_wp2
   refine⟨(VB hF.out _).trans ((KeepsOthers.setCell _ _ _).from _),⟨rfl,_,hT.out.set _,fun rest=>?_⟩,(HB.out.trans (hF.out.mono zaK)).setCell (p:=⟨w.heap.size+1,0,none⟩) zaL _⟩
   rw[hG.out];rfl
 case done =>
  rintro D ys W hD rfl ⟨⟨⟨hd,ha⟩,he,hm⟩,hB⟩ hK;have hu:=ha.cell;have Hb:=ha.frozen
  gi_wp2
  have hQ:=(KeepsOthers.setCell W ⟨w.heap.size+1,0,none⟩ (.int .i64 (-1))).same D _ hK rfl;refine⟨by simp,.inl ⟨_,_,rfl,run_takeDeferred hQ,?_⟩⟩
  have hO:=cell_kept (World.cell?_setCell_same' W ⟨w.heap.size+1,0,none⟩ (.int .i64 (-1)) (by rw[hu];rfl)) (grownBy_putObj' _ D (.deferred none)) (fun r e=>by cases e;exact⟨_,hQ,rfl⟩);have hA:findI l found X=-1:=by
   have h:=WU (l:=l) (x:=X) [] he;rw[List.append_nil]at h;exact h
  refine⟨.int .i64 (-1),?_,by rw[←Hx.out,hA],(hB.setCell (p:=⟨w.heap.size+1,0,none⟩) zaL _).trans (belowK_b (w:=w) (Nat.le_refl _) _ D _ _ zaK hQ rfl rfl)⟩;simp[results,Tryz.f84,go_sem,hO]
 case stop =>
  rintro D c pre W hD Hk ⟨⟨rfl,v,ha,hv⟩,hB⟩ hK;have hu:=ha.cell
  gi_wp2
  refine⟨by simp,.inl ⟨_,_,rfl,run_takeDeferred hK,?_⟩⟩
  have hO:=cell_kept hu (grownBy_putObj' _ D (.deferred none)) (fun r e=>by cases e;exact⟨_,hK,rfl⟩);have hA:findI l found X=v:=by
   obtain⟨rest,hZ⟩:=Hk;unfold findI;rw[←hZ];exact hv rest
  refine⟨.int .i64 v,?_,by rw[hA],hB.trans (belowK_b (w:=w) (Nat.le_refl _) W D _ _ zaK hK rfl rfl)⟩;simp[results,Tryz.f84,go_sem,hO]
end Go.Proofs.YtimpddecdodddaaGreat
