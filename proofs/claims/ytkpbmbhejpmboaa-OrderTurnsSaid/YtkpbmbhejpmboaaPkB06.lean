/- order.same, order.sameEnd; jacquardref17.SameMach, SameEnd. order.left, order.find. -/
import Derived.Test.YtkpbmbhejpmboaaPkB01
import Derived.Test.YtkpbmbhejpmboaaPkB05
import Derived.RegionTactic
import Derived.ChangeAlike
import Derived.RangeFuncNested
import Derived.RangeFuncBound
import Derived.RangeFuncCalls
import Derived.RangeFuncLeaves
import Derived.Shelf.Abstract
import Derived.Shelf.RegionOpen
import Derived.OwnWalkIn
import Derived.TacticsInMore
import Derived.LoopNIn
import Derived.LoopIn
namespace Go.Proofs.Ytkpbmbhejpmboaa
open Go.RowKit
set_option linter.unusedVariables false
def plv (x:PlV):Value:=.agg #[.int .i64 x.m.op,.int .i64 x.m.d,.int .i64 x.m.e,.int .i64 x.m.a,.int .i64 x.m.b,.int .i64 x.m.c,.int .i32 x.m.imm,x.av,.int .i64 x.src]
def endv (e:EndV):Value:=.agg #[.int .i64 e.op,.int .i64 e.a,.int .i64 e.b,e.tov,.int .i32 e.imm]
def sameM (x y:Mach):Bool:=x.op==y.op&&(x.d==y.d&&(x.e==y.e&&(x.a==y.a&&(x.b==y.b&&(x.c==y.c&&(x.imm==y.imm&&numsB x.args y.args))))))
def sameB (x y:PlV):Bool:=x.src==y.src&&sameM x.m y.m
def sameEndB (x y:EndV):Bool:=x.op==y.op&&(x.a==y.a&&(x.b==y.b&&(x.imm==y.imm&&numsB x.to y.to)))
set_option maxHeartbeats 2000000 in
set_option maxRecDepth 100000 in
theorem same_0 (x y:PlV) (w:World) (hx:Ints w x.av x.m.args) (hy:Ints w y.av y.m.args) (h0:(x.src==y.src)=false):Calls Try.prog 130 #[plv x,plv y] w (TellsS false w):=by
 obtain⟨⟨o1,d1,e1,a1,b1,c1,i1,l1⟩,v1,s1⟩:=x
 obtain⟨⟨o2,d2,e2,a2,b2,c2,i2,l2⟩,v2,s2⟩:=y
 obtain⟨q1,k1,hv1⟩:=nums_lenI hx
 obtain⟨q2,k2,hv2⟩:=nums_lenI hy
 dsimp only at hv1 hv2 h0
 subst hv1
 subst hv2
 have HX:=Lib.hid hx
 have HY:=Lib.hid hy
 clear hx hy
 unfold plv
 dsimp only
 go_enter Try.func130,Try.ntmps130
 go_wp2_with fail
 go_region
 all_goals go_wp2
 all_goals go_ret
 all_goals exact⟨rfl,(((((Since.refl _).alloc _).alloc _).alloc _).alloc _).drew⟩
set_option maxHeartbeats 2000000 in
set_option maxRecDepth 100000 in
theorem same_1 (x y:PlV) (w:World) (hx:Ints w x.av x.m.args) (hy:Ints w y.av y.m.args) (h0:(x.src==y.src)=true) (h1:(x.m.op==y.m.op)=false):Calls Try.prog 130 #[plv x,plv y] w (TellsS false w):=by
 obtain⟨⟨o1,d1,e1,a1,b1,c1,i1,l1⟩,v1,s1⟩:=x
 obtain⟨⟨o2,d2,e2,a2,b2,c2,i2,l2⟩,v2,s2⟩:=y
 obtain⟨q1,k1,hv1⟩:=nums_lenI hx
 obtain⟨q2,k2,hv2⟩:=nums_lenI hy
 dsimp only at hv1 hv2 h0 h1
 subst hv1
 subst hv2
 have HX:=Lib.hid hx
 have HY:=Lib.hid hy
 clear hx hy
 unfold plv
 dsimp only
 go_enter Try.func130,Try.ntmps130
 go_wp2_with fail
 go_region
 all_goals go_wp2
 all_goals go_ret
 all_goals exact⟨rfl,(((((Since.refl _).alloc _).alloc _).alloc _).alloc _).drew⟩
set_option maxHeartbeats 2000000 in
set_option maxRecDepth 100000 in
theorem same_2 (x y:PlV) (w:World) (hx:Ints w x.av x.m.args) (hy:Ints w y.av y.m.args) (h0:(x.src==y.src)=true) (h1:(x.m.op==y.m.op)=true) (h2:(x.m.d==y.m.d)=false):Calls Try.prog 130 #[plv x,plv y] w (TellsS false w):=by
 obtain⟨⟨o1,d1,e1,a1,b1,c1,i1,l1⟩,v1,s1⟩:=x
 obtain⟨⟨o2,d2,e2,a2,b2,c2,i2,l2⟩,v2,s2⟩:=y
 obtain⟨q1,k1,hv1⟩:=nums_lenI hx
 obtain⟨q2,k2,hv2⟩:=nums_lenI hy
 dsimp only at hv1 hv2 h0 h1 h2
 subst hv1
 subst hv2
 have HX:=Lib.hid hx
 have HY:=Lib.hid hy
 clear hx hy
 unfold plv
 dsimp only
 go_enter Try.func130,Try.ntmps130
 go_wp2_with fail
 go_region
 all_goals go_wp2
 all_goals go_ret
 all_goals exact⟨rfl,(((((Since.refl _).alloc _).alloc _).alloc _).alloc _).drew⟩
set_option maxHeartbeats 2000000 in
set_option maxRecDepth 100000 in
theorem same_3 (x y:PlV) (w:World) (hx:Ints w x.av x.m.args) (hy:Ints w y.av y.m.args) (h0:(x.src==y.src)=true) (h1:(x.m.op==y.m.op)=true) (h2:(x.m.d==y.m.d)=true) (h3:(x.m.e==y.m.e)=false):Calls Try.prog 130 #[plv x,plv y] w (TellsS false w):=by
 obtain⟨⟨o1,d1,e1,a1,b1,c1,i1,l1⟩,v1,s1⟩:=x
 obtain⟨⟨o2,d2,e2,a2,b2,c2,i2,l2⟩,v2,s2⟩:=y
 obtain⟨q1,k1,hv1⟩:=nums_lenI hx
 obtain⟨q2,k2,hv2⟩:=nums_lenI hy
 dsimp only at hv1 hv2 h0 h1 h2 h3
 subst hv1
 subst hv2
 have HX:=Lib.hid hx
 have HY:=Lib.hid hy
 clear hx hy
 unfold plv
 dsimp only
 go_enter Try.func130,Try.ntmps130
 go_wp2_with fail
 go_region
 all_goals go_wp2
 all_goals go_ret
 all_goals exact⟨rfl,(((((Since.refl _).alloc _).alloc _).alloc _).alloc _).drew⟩
set_option maxHeartbeats 2000000 in
set_option maxRecDepth 100000 in
theorem same_4 (x y:PlV) (w:World) (hx:Ints w x.av x.m.args) (hy:Ints w y.av y.m.args) (h0:(x.src==y.src)=true) (h1:(x.m.op==y.m.op)=true) (h2:(x.m.d==y.m.d)=true) (h3:(x.m.e==y.m.e)=true) (h4:(x.m.a==y.m.a)=false):Calls Try.prog 130 #[plv x,plv y] w (TellsS false w):=by
 obtain⟨⟨o1,d1,e1,a1,b1,c1,i1,l1⟩,v1,s1⟩:=x
 obtain⟨⟨o2,d2,e2,a2,b2,c2,i2,l2⟩,v2,s2⟩:=y
 obtain⟨q1,k1,hv1⟩:=nums_lenI hx
 obtain⟨q2,k2,hv2⟩:=nums_lenI hy
 dsimp only at hv1 hv2 h0 h1 h2 h3 h4
 subst hv1
 subst hv2
 have HX:=Lib.hid hx
 have HY:=Lib.hid hy
 clear hx hy
 unfold plv
 dsimp only
 go_enter Try.func130,Try.ntmps130
 go_wp2_with fail
 go_region
 all_goals go_wp2
 all_goals go_ret
 all_goals exact⟨rfl,(((((Since.refl _).alloc _).alloc _).alloc _).alloc _).drew⟩
set_option maxHeartbeats 2000000 in
set_option maxRecDepth 100000 in
theorem same_5 (x y:PlV) (w:World) (hx:Ints w x.av x.m.args) (hy:Ints w y.av y.m.args) (h0:(x.src==y.src)=true) (h1:(x.m.op==y.m.op)=true) (h2:(x.m.d==y.m.d)=true) (h3:(x.m.e==y.m.e)=true) (h4:(x.m.a==y.m.a)=true) (h5:(x.m.b==y.m.b)=false):Calls Try.prog 130 #[plv x,plv y] w (TellsS false w):=by
 obtain⟨⟨o1,d1,e1,a1,b1,c1,i1,l1⟩,v1,s1⟩:=x
 obtain⟨⟨o2,d2,e2,a2,b2,c2,i2,l2⟩,v2,s2⟩:=y
 obtain⟨q1,k1,hv1⟩:=nums_lenI hx
 obtain⟨q2,k2,hv2⟩:=nums_lenI hy
 dsimp only at hv1 hv2 h0 h1 h2 h3 h4 h5
 subst hv1
 subst hv2
 have HX:=Lib.hid hx
 have HY:=Lib.hid hy
 clear hx hy
 unfold plv
 dsimp only
 go_enter Try.func130,Try.ntmps130
 go_wp2_with fail
 go_region
 all_goals go_wp2
 all_goals go_ret
 all_goals exact⟨rfl,(((((Since.refl _).alloc _).alloc _).alloc _).alloc _).drew⟩
set_option maxHeartbeats 2000000 in
set_option maxRecDepth 100000 in
theorem same_6 (x y:PlV) (w:World) (hx:Ints w x.av x.m.args) (hy:Ints w y.av y.m.args) (h0:(x.src==y.src)=true) (h1:(x.m.op==y.m.op)=true) (h2:(x.m.d==y.m.d)=true) (h3:(x.m.e==y.m.e)=true) (h4:(x.m.a==y.m.a)=true) (h5:(x.m.b==y.m.b)=true) (h6:(x.m.c==y.m.c)=false):Calls Try.prog 130 #[plv x,plv y] w (TellsS false w):=by
 obtain⟨⟨o1,d1,e1,a1,b1,c1,i1,l1⟩,v1,s1⟩:=x
 obtain⟨⟨o2,d2,e2,a2,b2,c2,i2,l2⟩,v2,s2⟩:=y
 obtain⟨q1,k1,hv1⟩:=nums_lenI hx
 obtain⟨q2,k2,hv2⟩:=nums_lenI hy
 dsimp only at hv1 hv2 h0 h1 h2 h3 h4 h5 h6
 subst hv1
 subst hv2
 have HX:=Lib.hid hx
 have HY:=Lib.hid hy
 clear hx hy
 unfold plv
 dsimp only
 go_enter Try.func130,Try.ntmps130
 go_wp2_with fail
 go_region
 all_goals go_wp2
 all_goals go_ret
 all_goals exact⟨rfl,(((((Since.refl _).alloc _).alloc _).alloc _).alloc _).drew⟩
set_option maxHeartbeats 2000000 in
set_option maxRecDepth 100000 in
theorem same_7 (x y:PlV) (w:World) (hx:Ints w x.av x.m.args) (hy:Ints w y.av y.m.args) (h0:(x.src==y.src)=true) (h1:(x.m.op==y.m.op)=true) (h2:(x.m.d==y.m.d)=true) (h3:(x.m.e==y.m.e)=true) (h4:(x.m.a==y.m.a)=true) (h5:(x.m.b==y.m.b)=true) (h6:(x.m.c==y.m.c)=true) (h7:(x.m.imm==y.m.imm)=false):Calls Try.prog 130 #[plv x,plv y] w (TellsS false w):=by
 obtain⟨⟨o1,d1,e1,a1,b1,c1,i1,l1⟩,v1,s1⟩:=x
 obtain⟨⟨o2,d2,e2,a2,b2,c2,i2,l2⟩,v2,s2⟩:=y
 obtain⟨q1,k1,hv1⟩:=nums_lenI hx
 obtain⟨q2,k2,hv2⟩:=nums_lenI hy
 dsimp only at hv1 hv2 h0 h1 h2 h3 h4 h5 h6 h7
 subst hv1
 subst hv2
 have HX:=Lib.hid hx
 have HY:=Lib.hid hy
 clear hx hy
 unfold plv
 dsimp only
 go_enter Try.func130,Try.ntmps130
 go_wp2_with fail
 go_region
 all_goals go_wp2
 all_goals go_ret
 all_goals exact⟨rfl,(((((Since.refl _).alloc _).alloc _).alloc _).alloc _).drew⟩
set_option maxHeartbeats 2000000 in
set_option maxRecDepth 100000 in
theorem same_8 (x y:PlV) (w:World) (hx:Ints w x.av x.m.args) (hy:Ints w y.av y.m.args) (h0:(x.src==y.src)=true) (h1:(x.m.op==y.m.op)=true) (h2:(x.m.d==y.m.d)=true) (h3:(x.m.e==y.m.e)=true) (h4:(x.m.a==y.m.a)=true) (h5:(x.m.b==y.m.b)=true) (h6:(x.m.c==y.m.c)=true) (h7:(x.m.imm==y.m.imm)=true):Calls Try.prog 130 #[plv x,plv y] w (TellsS (numsB x.m.args y.m.args) w):=by
 obtain⟨⟨o1,d1,e1,a1,b1,c1,i1,l1⟩,v1,s1⟩:=x
 obtain⟨⟨o2,d2,e2,a2,b2,c2,i2,l2⟩,v2,s2⟩:=y
 obtain⟨q1,k1,hv1⟩:=nums_lenI hx
 obtain⟨q2,k2,hv2⟩:=nums_lenI hy
 dsimp only at hv1 hv2 h0 h1 h2 h3 h4 h5 h6 h7
 subst hv1
 subst hv2
 have HX:=Lib.hid hx
 have HY:=Lib.hid hy
 clear hx hy
 unfold plv
 dsimp only
 go_enter Try.func130,Try.ntmps130
 go_wp2_with fail
 go_region
 all_goals
  go_wp2_with fail
  refine (equal_any _ _ _ _ _ (HX.out.keep (((((Since.refl _).alloc _).alloc _).alloc _).alloc _).drew) (HY.out.keep (((((Since.refl _).alloc _).alloc _).alloc _).alloc _).drew)).mono ?_
  rintro e w1 ⟨rfl,hs1⟩
  go_wp2
  go_ret
  exact⟨rfl,(((((Since.refl _).alloc _).alloc _).alloc _).alloc _).drew.trans hs1⟩
theorem samepl_any (x y:PlV) (w:World) (hx:Ints w x.av x.m.args) (hy:Ints w y.av y.m.args):Calls Try.prog 130 #[plv x,plv y] w (TellsS (sameB x y) w):=by
 unfold sameB sameM
 cases h0:(x.src==y.src) with
 | false=>exact same_0 x y w hx hy h0
 | true =>
  cases h1:(x.m.op==y.m.op) with
  | false=>exact same_1 x y w hx hy h0 h1
  | true =>
   cases h2:(x.m.d==y.m.d) with
   | false=>exact same_2 x y w hx hy h0 h1 h2
   | true =>
    cases h3:(x.m.e==y.m.e) with
    | false=>exact same_3 x y w hx hy h0 h1 h2 h3
    | true =>
     cases h4:(x.m.a==y.m.a) with
     | false=>exact same_4 x y w hx hy h0 h1 h2 h3 h4
     | true =>
      cases h5:(x.m.b==y.m.b) with
      | false=>exact same_5 x y w hx hy h0 h1 h2 h3 h4 h5
      | true =>
       cases h6:(x.m.c==y.m.c) with
       | false=>exact same_6 x y w hx hy h0 h1 h2 h3 h4 h5 h6
       | true =>
        cases h7:(x.m.imm==y.m.imm) with
        | false=>exact same_7 x y w hx hy h0 h1 h2 h3 h4 h5 h6 h7
        | true =>
         exact same_8 x y w hx hy h0 h1 h2 h3 h4 h5 h6 h7
set_option maxHeartbeats 2000000 in
set_option maxRecDepth 100000 in
theorem sameend_0 (x y:EndV) (w:World) (hx:Ints w x.tov x.to) (hy:Ints w y.tov y.to) (h0:(x.op==y.op)=false):Calls Try.prog 96 #[endv x,endv y] w (TellsS false w):=by
 obtain⟨o1,a1,b1,l1,v1,i1⟩:=x
 obtain⟨o2,a2,b2,l2,v2,i2⟩:=y
 obtain⟨q1,k1,hv1⟩:=nums_lenI hx
 obtain⟨q2,k2,hv2⟩:=nums_lenI hy
 dsimp only at hv1 hv2 h0
 subst hv1
 subst hv2
 have HX:=Lib.hid hx
 have HY:=Lib.hid hy
 clear hx hy
 unfold endv
 dsimp only
 go_enter Try.func96,Try.ntmps96
 go_wp2
 go_ret
 exact⟨rfl,(((Since.refl _).alloc _).alloc _)⟩
set_option maxHeartbeats 2000000 in
set_option maxRecDepth 100000 in
theorem sameend_1 (x y:EndV) (w:World) (hx:Ints w x.tov x.to) (hy:Ints w y.tov y.to) (h0:(x.op==y.op)=true) (h1:(x.a==y.a)=false):Calls Try.prog 96 #[endv x,endv y] w (TellsS false w):=by
 obtain⟨o1,a1,b1,l1,v1,i1⟩:=x
 obtain⟨o2,a2,b2,l2,v2,i2⟩:=y
 obtain⟨q1,k1,hv1⟩:=nums_lenI hx
 obtain⟨q2,k2,hv2⟩:=nums_lenI hy
 dsimp only at hv1 hv2 h0 h1
 subst hv1
 subst hv2
 have HX:=Lib.hid hx
 have HY:=Lib.hid hy
 clear hx hy
 unfold endv
 dsimp only
 go_enter Try.func96,Try.ntmps96
 go_wp2
 go_ret
 exact⟨rfl,(((Since.refl _).alloc _).alloc _)⟩
set_option maxHeartbeats 2000000 in
set_option maxRecDepth 100000 in
theorem sameend_2 (x y:EndV) (w:World) (hx:Ints w x.tov x.to) (hy:Ints w y.tov y.to) (h0:(x.op==y.op)=true) (h1:(x.a==y.a)=true) (h2:(x.b==y.b)=false):Calls Try.prog 96 #[endv x,endv y] w (TellsS false w):=by
 obtain⟨o1,a1,b1,l1,v1,i1⟩:=x
 obtain⟨o2,a2,b2,l2,v2,i2⟩:=y
 obtain⟨q1,k1,hv1⟩:=nums_lenI hx
 obtain⟨q2,k2,hv2⟩:=nums_lenI hy
 dsimp only at hv1 hv2 h0 h1 h2
 subst hv1
 subst hv2
 have HX:=Lib.hid hx
 have HY:=Lib.hid hy
 clear hx hy
 unfold endv
 dsimp only
 go_enter Try.func96,Try.ntmps96
 go_wp2
 go_ret
 exact⟨rfl,(((Since.refl _).alloc _).alloc _)⟩
set_option maxHeartbeats 2000000 in
set_option maxRecDepth 100000 in
theorem sameend_3 (x y:EndV) (w:World) (hx:Ints w x.tov x.to) (hy:Ints w y.tov y.to) (h0:(x.op==y.op)=true) (h1:(x.a==y.a)=true) (h2:(x.b==y.b)=true) (h3:(x.imm==y.imm)=false):Calls Try.prog 96 #[endv x,endv y] w (TellsS false w):=by
 obtain⟨o1,a1,b1,l1,v1,i1⟩:=x
 obtain⟨o2,a2,b2,l2,v2,i2⟩:=y
 obtain⟨q1,k1,hv1⟩:=nums_lenI hx
 obtain⟨q2,k2,hv2⟩:=nums_lenI hy
 dsimp only at hv1 hv2 h0 h1 h2 h3
 subst hv1
 subst hv2
 have HX:=Lib.hid hx
 have HY:=Lib.hid hy
 clear hx hy
 unfold endv
 dsimp only
 go_enter Try.func96,Try.ntmps96
 go_wp2
 go_ret
 exact⟨rfl,(((Since.refl _).alloc _).alloc _)⟩
set_option maxHeartbeats 2000000 in
set_option maxRecDepth 100000 in
theorem sameend_4 (x y:EndV) (w:World) (hx:Ints w x.tov x.to) (hy:Ints w y.tov y.to) (h0:(x.op==y.op)=true) (h1:(x.a==y.a)=true) (h2:(x.b==y.b)=true) (h3:(x.imm==y.imm)=true):Calls Try.prog 96 #[endv x,endv y] w (TellsS (numsB x.to y.to) w):=by
 obtain⟨o1,a1,b1,l1,v1,i1⟩:=x
 obtain⟨o2,a2,b2,l2,v2,i2⟩:=y
 obtain⟨q1,k1,hv1⟩:=nums_lenI hx
 obtain⟨q2,k2,hv2⟩:=nums_lenI hy
 dsimp only at hv1 hv2 h0 h1 h2 h3
 subst hv1
 subst hv2
 have HX:=Lib.hid hx
 have HY:=Lib.hid hy
 clear hx hy
 unfold endv
 dsimp only
 go_enter Try.func96,Try.ntmps96
 go_wp2_with fail
 refine (equal_any _ _ _ _ _ (HX.out.keep (((Since.refl _).alloc _).alloc _)) (HY.out.keep (((Since.refl _).alloc _).alloc _))).mono ?_
 rintro e w1 ⟨rfl,hs1⟩
 go_wp2
 go_ret
 exact⟨rfl,(((Since.refl _).alloc _).alloc _).trans hs1⟩
theorem sameend_any (x y:EndV) (w:World) (hx:Ints w x.tov x.to) (hy:Ints w y.tov y.to):Calls Try.prog 96 #[endv x,endv y] w (TellsS (sameEndB x y) w):=by
 unfold sameEndB
 cases h0:(x.op==y.op) with
 | false=>exact sameend_0 x y w hx hy h0
 | true =>
  cases h1:(x.a==y.a) with
  | false=>exact sameend_1 x y w hx hy h0 h1
  | true =>
   cases h2:(x.b==y.b) with
   | false=>exact sameend_2 x y w hx hy h0 h1 h2
   | true =>
    cases h3:(x.imm==y.imm) with
    | false=>exact sameend_3 x y w hx hy h0 h1 h2 h3
    | true =>
     exact sameend_4 x y w hx hy h0 h1 h2 h3
open Go.RowKit Go.Shelf
def leftsTo (l:List PlV) (found:List Bool) (k:Nat):List (Fin l.length):=(List.range k).filterMap fun j=>if h:j<l.length then (if found.getD j true then none else some ⟨j,h⟩) else none
theorem leftsTo_succ {l : List PlV} {found:List Bool} {k : Nat} (h:k<l.length):leftsTo l found (k+1)=leftsTo l found k++(if found.getD k true then [] else [⟨k,h⟩]):=by
 unfold leftsTo
 rw[List.range_succ,List.filterMap_append]
 congr 1
 by_cases hf:found.getD k true=true
 ·have hf2:found[k]?.getD true=true:=by rw[←List.getD_eq_getElem?_getD];exact hf
  simp[List.filterMap,h,hf2]
 ·have hf2:found[k]?.getD true=false:=by rw[←List.getD_eq_getElem?_getD];simpa using hf
  simp[List.filterMap,h,hf2]
theorem leftsTo_pre (l:List PlV) (found:List Bool) {k n:Nat} (h:k≤n):leftsTo l found k <+: leftsTo l found n:=by
 obtain⟨d,rfl⟩:=Nat.exists_eq_add_of_le h
 unfold leftsTo
 rw[List.range_add,List.filterMap_append]
 exact List.prefix_append _ _
theorem leftsTo_len (l:List PlV) (found:List Bool) (k:Nat):(leftsTo l found k).length≤k:=by
 unfold leftsTo
 have:=List.length_filterMap_le (fun j=>if h:j<l.length then (if found.getD j true then none else some (⟨j,h⟩:Fin l.length)) else none) (List.range k)
 simpa using this
def findR (l:List PlV) (x:PlV):List (Fin l.length)→Int
 | []=>-1
 | k::r=>if sameB x (l.get k) then (k.val:Int) else if dependsB (l.get k).m x.m then -1 else findR l x r
def noB (l:List PlV) (x:PlV) (k:Fin l.length):Bool:=!sameB x (l.get k)&&!dependsB (l.get k).m x.m
theorem findR_skip {l : List PlV} {x : PlV}:∀ {pre:List (Fin l.length)} (r:List (Fin l.length)),(∀ k∈pre,noB l x k=true)→findR l x (pre++r)=findR l x r
 | [],_,_=>rfl
 | k::pre,r,h=>by
  have h1:=h k List.mem_cons_self
  unfold noB at h1
  simp only[Bool.and_eq_true,Bool.not_eq_true']at h1
  rw[List.cons_append]
  show (if sameB x (l.get k) then (k.val:Int) else if dependsB (l.get k).m x.m then -1 else findR l x (pre++r))=_
  rw[h1.1,h1.2]
  exact findR_skip r fun y hy=>h y (List.mem_cons_of_mem _ hy)
def findI (l:List PlV) (found:List Bool) (x:PlV):Int:=findR l x (leftsTo l found l.length)
theorem lt_at {W : World} {B : Nat} {o : Obj} (h:W.heap[B]? = some o):B<W.heap.size:=(Array.getElem?_eq_some_iff.1 h).1
theorem keeps_below {W W':World} (h:Below W.heap.size W W') (B:Nat):KeepsFrom B W W':=⟨h.size,fun k o _ hk _=>(h.block k (lt_at hk)).trans hk⟩
set_option maxHeartbeats 1000000 in
set_option maxRecDepth 100000 in
theorem left_in (F:Fence) (n:Nat) (hF:F.fn 129) (hro:F.round=none) (a a2:Option Addr) (l1 l2 c1 c2:Nat) (w:World) :
  CallsIn F n Try.prog 129 #[.slice a l1 c1,.slice a2 l2 c2] w fun e w'=>e=.returned (.func (.func 146) #[] #[.pointer (some ⟨w.heap.size,0,none⟩),.pointer (some ⟨w.heap.size+1,0,none⟩)])∧w'=(w.alloc (.cells #[.slice a l1 c1] 54)).alloc (.cells #[.slice a2 l2 c2] 79):=by
 refine callsIn_of_wp Try.func129 rfl hF ?_ hro
 simp only[Try.ntmps129,List.size_toArray,List.length_cons,List.length_nil,Nat.reduceAdd,Nat.reduceSub,Array.replicate_succ,Array.replicate_zero,List.push_toArray,List.append_toArray,List.nil_append,List.cons_append]
 gi_wp2
 go_ret
 exact⟨rfl,rfl⟩
attribute [local go_sem] Oper.semAt_some
set_option maxHeartbeats 4000000 in
set_option maxRecDepth 100000 in
theorem left1_in (F:Fence) (n:Nat) (hF:F.fn 146) (hro:F.round=none) (hn:1≤n) (lk Bl Bf n₀ cap fb:Nat) (a:Option Addr) (l:List PlV) (found:List Bool) (hlen:found.length=l.length) (hreach:l.length≤9223372036854775807) (hfb:fb<n₀) (J Jx:List (Fin l.length)→World→Prop)
  (hY:∀ pre x W,J pre W→pre.length<l.length→YieldAt F (n-1) Try.prog lk #[.int .i64 (x.val:Int),plv (l.get x)] W fun e W' =>
   (e=.returned (.bool true)∧J (pre++[x]) W'∧Below n₀ W W')∨(e=.returned (.bool false)∧Jx (pre++[x]) W'))
  (W:World) (hJa:∀ (s:List (Fin l.length)) (X:World) (o:Obj),J s X→J s (X.alloc o)) (hn₀:n₀≤W.heap.size) (hBl:W.cell? ⟨Bl,0,none⟩=some (.slice a l.length cap)) (hBf:W.cell? ⟨Bf,0,none⟩=some (.slice (some ⟨fb,0,none⟩) l.length l.length)) (hBf2:Bf<n₀)
  (hc:∀ (j:Nat) (x:PlV),l[j]? = some x→∃ b off,a=some ⟨b,off,none⟩∧b<n₀∧∀ t,t<9→W.cell? ⟨b,off+j*9+t,none⟩=(plcells x)[t]?) (hav:∀ x∈l,∃ a c,x.av=.slice a x.m.args.length c)
  (hfc:∀ (j:Nat) (x:Bool),found[j]? = some x→W.cell? ⟨fb,j,none⟩=some (.bool x)) (h0:J [] W) :
  CallsIn F n Try.prog 146 #[.func (.yield lk) #[] #[],.pointer (some ⟨Bl,0,none⟩),.pointer (some ⟨Bf,0,none⟩)] W fun e W'=>(∃ v,e=.returned v) ∧
   ((∃ ys,ys=leftsTo l found l.length∧J ys W')∨(∃ pre,pre <+: leftsTo l found l.length∧Jx pre W')):=by
 obtain⟨len,hll⟩:∃ x,l.length=x:=⟨_,rfl⟩
 have HLL:=Lib.hid hll
 have HC:=Lib.hid hc
 have HAV:=Lib.hid hav
 have HFC:=Lib.hid hfc
 have HLEN:=Lib.hid hlen
 have HJA:=Lib.hid hJa
 have HY:=Lib.hid hY
 clear hc hfc hlen hJa hY hav
 have hbl:W.cell? ⟨Bl,0,none⟩=some (.slice a len cap):=by rw[hBl,hll]
 have hbf:W.cell? ⟨Bf,0,none⟩=some (.slice (some ⟨fb,0,none⟩) len len):=by rw[hBf,hll]
 have hre:len≤9223372036854775807:=by omega
 clear hBl hBf hll hreach
 refine callsIn_of_wp Try.func146 rfl hF ?_ hro
 simp only[Try.ntmps146,List.size_toArray,List.length_cons,List.length_nil,Nat.reduceAdd,Nat.reduceSub,Array.replicate_succ,Array.replicate_zero,List.push_toArray,List.append_toArray,List.nil_append,List.cons_append]
 gi_wp2
 gi_loopw [8] (fun i wr=>∃ k:Nat,k≤len∧i=.int .i64 k∧J (leftsTo l found k) wr∧Below n₀ W wr) (fun i _=>len-(intOf i).toNat)
 case atStart=>exact⟨0,Nat.zero_le _,rfl,h0,Below.refl _ _⟩
 case round =>
  obtain⟨k,hk,rfl,hJs,hnx⟩:=hrel
  by_cases hlt:k<len
  ·have hkl:k<l.length:=by have:=HLL.out;omega
   obtain⟨x,hx⟩:∃ x,x=l.get ⟨k,hkl⟩:=⟨_,rfl⟩
   have hxk:l[k]? = some x:=by rw[hx];exact List.getElem?_eq_getElem hkl
   obtain⟨fk,hfk⟩:∃ fk,found[k]? = some fk:=⟨_,List.getElem?_eq_getElem (by have:=HLEN.out;omega)⟩
   have hgd:found.getD k true=fk:=by rw[List.getD_eq_getElem?_getD,hfk];rfl
   have hsu:=leftsTo_succ (found:=found) hkl
   rw[hgd]at hsu
   obtain⟨b,off,rfl,hb,hcx⟩:=HC.out k x hxk
   have hcw:=fun t ht=>(hnx.cell (p:=⟨b,off+k*9+t,none⟩) hb).trans (hcx t ht)
   have hcf:wr.cell? ⟨fb,k,none⟩=some (.bool fk):=(hnx.cell (p:=⟨fb,k,none⟩) hfb).trans (HFC.out k fk hfk)
   have hcb:wr.cell? ⟨Bf,0,none⟩=some (.slice (some ⟨fb,0,none⟩) len len):=(hnx.cell (p:=⟨Bf,0,none⟩) hBf2).trans hbf
   have hbw:b<wr.heap.size:=by have:=hnx.size;omega
   have hfbw:fb<wr.heap.size:=by have:=hnx.size;omega
   have hBfw:Bf<wr.heap.size:=by have:=hnx.size;omega
   obtain⟨xa,xc,hxv⟩:=HAV.out x (List.mem_of_getElem? hxk)
   have hY2:=HY.out (leftsTo l found k) ⟨k,hkl⟩
   rw[←hx]at hY2
   have hy2:=hY2 (wr.alloc (.cells (plcells x).toArray 58)) (HJA.out _ _ _ hJs) (by have:=leftsTo_len l found k;omega)
   obtain⟨⟨o1,d1,e1,a1,b1,c1,i1,ar⟩,av,sr⟩:=x
   dsimp only at hxv
   subst hxv
   obtain⟨al,hal⟩:∃ x,ar.length=x:=⟨_,rfl⟩
   have k0:wr.cell? ⟨b,off+k*9,none⟩=some (.int .i64 o1):=hcw 0 (by decide)
   have k1:wr.cell? ⟨b,off+k*9+1,none⟩=some (.int .i64 d1):=hcw 1 (by decide)
   have k2:wr.cell? ⟨b,off+k*9+2,none⟩=some (.int .i64 e1):=hcw 2 (by decide)
   have k3:wr.cell? ⟨b,off+k*9+3,none⟩=some (.int .i64 a1):=hcw 3 (by decide)
   have k4:wr.cell? ⟨b,off+k*9+4,none⟩=some (.int .i64 b1):=hcw 4 (by decide)
   have k5:wr.cell? ⟨b,off+k*9+5,none⟩=some (.int .i64 c1):=hcw 5 (by decide)
   have k6:wr.cell? ⟨b,off+k*9+6,none⟩=some (.int .i32 i1):=hcw 6 (by decide)
   have k7:wr.cell? ⟨b,off+k*9+7,none⟩=some (.slice xa al xc):=by rw[←hal];exact hcw 7 (by decide)
   have k8:wr.cell? ⟨b,off+k*9+8,none⟩=some (.int .i64 sr):=hcw 8 (by decide)
   have hcb2:(wr.alloc (.cells #[.int .i64 o1,.int .i64 d1,.int .i64 e1,.int .i64 a1,.int .i64 b1,.int .i64 c1,.int .i32 i1,.slice xa al xc,.int .i64 sr] 58)).cell? ⟨Bf,0,none⟩=some (.slice (some ⟨fb,0,none⟩) len len):=by
    rw[←hcb];exact (Since.alloc (Since.refl wr) _).cell (p:=⟨Bf,0,none⟩) hBfw
   have hcf2:(wr.alloc (.cells #[.int .i64 o1,.int .i64 d1,.int .i64 e1,.int .i64 a1,.int .i64 b1,.int .i64 c1,.int .i32 i1,.slice xa al xc,.int .i64 sr] 58)).cell? ⟨fb,k,none⟩=some (.bool fk):=by
    rw[←hcf];exact (Since.alloc (Since.refl wr) _).cell (p:=⟨fb,k,none⟩) hfbw
   have HJS:=Lib.hid (HJA.out _ _ (.cells #[.int .i64 o1,.int .i64 d1,.int .i64 e1,.int .i64 a1,.int .i64 b1,.int .i64 c1,.int .i32 i1,.slice xa al xc,.int .i64 sr] 58) hJs)
   have HNX:=Lib.hid (hnx.alloc (Nat.le_trans hn₀ hnx.size) (.cells #[.int .i64 o1,.int .i64 d1,.int .i64 e1,.int .i64 a1,.int .i64 b1,.int .i64 c1,.int .i32 i1,.slice xa al xc,.int .i64 sr] 58))
   unfold plv at hy2
   dsimp only[plcells]at hy2
   rw[hal]at hy2
   have HSU:=Lib.hid hsu
   clear hcw hcx hcf hcb hxk hfk hgd hsu hY2 hx hal hnx hJs
   cases fk
   ·obtain⟨fn,tmps,assign,body,hy,hR⟩:=hy2
    gi_wp2
    refine hR.mono ?_
    rintro e W3 (⟨rfl,hJ3,hk3⟩|⟨rfl,hJx3⟩)
    ·gi_wp2
     go_roundw
     case rel=>exact⟨k+1,by omega,by go_num,by rw[HSU.out];exact hJ3,HNX.out.trans hk3⟩
     case measure=>simp[intOf];omega
    ·gi_wp2
     refine bodyPost_ret (results_none rfl _ _ _) rfl ?_
     exact⟨⟨_,rfl⟩,.inr ⟨_,by have h5:=leftsTo_pre l found (show k+1≤l.length from hkl);rw[HSU.out]at h5;exact h5,hJx3⟩⟩
   ·clear hy2
    gi_wp2
    refine⟨fun _ h=>(by cases h),?_⟩
    gi_wp2
    go_roundw
    case rel=>exact⟨k+1,by omega,by go_num,by rw[HSU.out,if_pos True.intro,List.append_nil];exact HJS.out,HNX.out⟩
    case measure=>simp[intOf];omega
  ·obtain rfl:k=len:=by omega
   gi_wp2
   go_end0
   exact⟨⟨_,rfl⟩,.inl ⟨_,congrArg (leftsTo l found) HLL.out.symm,hJs⟩⟩
theorem cellsAt_own {β:Type} (B:Nat) (cs:Array Value) (t:TypeId):Own (fun (_:β) W=>W.heap[B]? = some (.cells cs t (0,0))):=fun s X Y row hs hg hrow =>
 (hg.block B (lt_at hs) (fun e=>by obtain⟨o,ho,hc⟩:=hrow B e.symm;rw[hs]at ho;cases ho;cases hc)).trans hs
theorem cells_at {W : World} {B : Nat} {cs:Array Value} {t : TypeId} (h:W.heap[B]? = some (.cells cs t (0,0))) (i:Nat):W.cell? ⟨B,i,none⟩=cs[i]?:=by simp[World.cell?,h]
def NumI (k:Int) (w:World) (e:Ending) (w':World):Prop:=e=.returned (.int .i64 k)∧Since w w'
set_option maxHeartbeats 4000000 in
set_option maxRecDepth 100000 in
theorem find_any (lv:Value) (l:List PlV) (fb:Nat) (found:List Bool) (x:PlV) (w:World) (hl:Pls w lv l) (hlen:found.length=l.length) (hf:w.heap[fb]? = some (.cells (found.map Value.bool).toArray 4 (0,0))) (hx:PlOk w x) :
  Calls Try.prog 95 #[lv,.slice (some ⟨fb,0,none⟩) l.length l.length,plv x] w (NumI (findI l found x) w):=by
 obtain⟨a,cap,hlv,hmax⟩:=hl.shape
 subst hlv
 unfold maxLen at hmax
 obtain⟨n,hn⟩:∃ n,l.length=n:=⟨_,rfl⟩
 have HL:=Lib.hid hl
 have HX:=Lib.hid hx
 have HF:=Lib.hid hf
 have HN:=Lib.hid hn
 have HLEN:=Lib.hid hlen
 have hfl:=lt_at hf
 have hre:n≤9223372036854775807:=by omega
 rw[hn]
 clear hl hf hlen hmax hn
 obtain⟨⟨xo,xd,xe,xa,xb,xc,xi,xr⟩,xv,xs⟩:=x
 obtain⟨xva,xvc,hxv⟩:=nums_lenI hx.1
 dsimp only at hxv
 subst hxv
 obtain⟨xl,hxl⟩:∃ q,xr.length=q:=⟨_,rfl⟩
 have HXL:=Lib.hid hxl
 unfold plv
 dsimp only
 rw[hxl]
 clear hx hxl
 refine (callsIn_wide (n:=6)).1 ?_
 refine callsIn_of_wp_marks Try.func95 rfl trivial ?_ rfl
 simp only[Try.ntmps95,List.size_toArray,List.length_cons,List.length_nil,Nat.reduceAdd,Nat.reduceSub,Array.replicate_succ,Array.replicate_zero,List.push_toArray,List.append_toArray,List.nil_append,List.cons_append]
 gi_wp2_with fail
 refine⟨trivial,?_⟩
 refine (left_in Fence.wide _ trivial rfl _ _ _ _ _ _ _).mono ?_
 rintro e w' ⟨rfl,rfl⟩
 gi_wp2
 obtain⟨W0,hW0⟩:∃ W0,(((w.alloc (.cells #[.int .i64 xo,.int .i64 xd,.int .i64 xe,.int .i64 xa,.int .i64 xb,.int .i64 xc,.int .i32 xi,.slice xva xl xvc,.int .i64 xs] 58)).alloc (.cells #[.int .i64 0] 3)).alloc (.cells #[.slice a n cap] 54)).alloc (.cells #[.slice (some ⟨fb,0,none⟩) n n] 79)=W0:=⟨_,rfl⟩
 have hs0:Since w W0:=by rw[←hW0];exact ((((Since.refl w).alloc _).alloc _).alloc _).alloc _
 have hz0:W0.heap.size=w.heap.size+4:=by rw[←hW0];simp
 have b0:W0.heap[w.heap.size]? = some (.cells #[.int .i64 xo,.int .i64 xd,.int .i64 xe,.int .i64 xa,.int .i64 xb,.int .i64 xc,.int .i32 xi,.slice xva xl xvc,.int .i64 xs] 58 (0,0)):=by
  rw[←hW0];exact ((((Since.refl _).alloc _).alloc _).alloc _).block _ (by simp) |>.trans (heap_last _ _)
 have b1:Boxed W0 (w.heap.size+1) 3 (.int .i64 0):=by
  have h:=Boxed.new (w.alloc (.cells #[.int .i64 xo,.int .i64 xd,.int .i64 xe,.int .i64 xa,.int .i64 xb,.int .i64 xc,.int .i32 xi,.slice xva xl xvc,.int .i64 xs] 58)) 3 (.int .i64 0)
  rw[World.size_alloc]at h
  rw[←hW0];exact (h.alloc _).alloc _
 have b2:W0.cell? ⟨w.heap.size+2,0,none⟩=some (.slice a n cap):=by
  have h:=Boxed.new ((w.alloc (.cells #[.int .i64 xo,.int .i64 xd,.int .i64 xe,.int .i64 xa,.int .i64 xb,.int .i64 xc,.int .i32 xi,.slice xva xl xvc,.int .i64 xs] 58)).alloc (.cells #[.int .i64 0] 3)) 54 (.slice a n cap)
  rw[World.size_alloc,World.size_alloc]at h
  rw[←hW0];exact (h.alloc _).cell
 have b3:W0.cell? ⟨w.heap.size+3,0,none⟩=some (.slice (some ⟨fb,0,none⟩) n n):=by
  have h:=Boxed.new (((w.alloc (.cells #[.int .i64 xo,.int .i64 xd,.int .i64 xe,.int .i64 xa,.int .i64 xb,.int .i64 xc,.int .i32 xi,.slice xva xl xvc,.int .i64 xs] 58)).alloc (.cells #[.int .i64 0] 3)).alloc (.cells #[.slice a n cap] 54)) 79 (.slice (some ⟨fb,0,none⟩) n n)
  rw[World.size_alloc,World.size_alloc,World.size_alloc]at h
  rw[←hW0];exact h.cell
 rw[hW0]
 clear hW0
 obtain⟨X,hX⟩:∃ X:PlV,X={ m:={ op:=xo,d:=xd,e:=xe,a:=xa,b:=xb,c:=xc,imm:=xi,args:=xr },av:=Value.slice xva xl xvc,src:=xs }:=⟨_,rfl⟩
 have hXp:plv X=.agg #[.int .i64 xo,.int .i64 xd,.int .i64 xe,.int .i64 xa,.int .i64 xb,.int .i64 xc,.int .i32 xi,.slice xva xl xvc,.int .i64 xs]:=by rw[hX];rfl
 have hXm:mv X.m X.av=.agg #[.int .i64 xo,.int .i64 xd,.int .i64 xe,.int .i64 xa,.int .i64 xb,.int .i64 xc,.int .i32 xi,.slice xva xl xvc]:=by rw[hX];rfl
 have hXok:PlOk w X:=by rw[hX,←HXL.out];exact HX.out
 rw[←hX]
 have HXP:=Lib.hid hXp
 have HXE:=Lib.hid hX
 have HXM:=Lib.hid hXm
 have HXOK:=Lib.hid hXok
 clear hX hXp hXm hXok HX HXL
 have hseq:SeqStopsK Fence.wide (6-1) Try.prog 146 #[.pointer (some ⟨w.heap.size+2,0,none⟩),.pointer (some ⟨w.heap.size+3,0,none⟩)] (fun k:Fin l.length=>#[.int .i64 (k.val:Int),plv (l.get k)]) (Below W0.heap.size) (fun ys=>ys=leftsTo l found l.length) (fun pre=>pre <+: leftsTo l found l.length) l.length W0:=by
  intro lk J Jx W hW hJ hJx hY h0
  have hle:=hW.size
  refine left1_in Fence.wide (6-1) trivial rfl (by decide) lk (w.heap.size+2) (w.heap.size+3) W0.heap.size cap fb a l found HLEN.out (by rw[HN.out];exact hre) (by omega) J Jx hY W (fun s Y o hs=>hJ s Y _ none hs (World.grownBy_alloc Y o none) (fun r e=>by cases e)) hle ?_ ?_ (by omega) ?_ ?_ ?_ h0
  ·rw[HN.out];exact (hW.cell (p:=⟨w.heap.size+2,0,none⟩) (by show w.heap.size+2<W0.heap.size;omega)).trans b2
  ·rw[HN.out];exact (hW.cell (p:=⟨w.heap.size+3,0,none⟩) (by show w.heap.size+3<W0.heap.size;omega)).trans b3
  ·intro j x hj
   obtain⟨b,off,y,h1,h2,h3,h4,_⟩:=RowIn.at HL.out (List.getElem?_eq_some_iff.1 hj).1
   rw[hj]at h3
   obtain rfl:=Option.some.inj h3
   exact⟨b,off,h1,by omega,fun t ht=>((hW.cell (p:=⟨b,off+j*9+t,none⟩) (by show b<W0.heap.size;omega)).trans (hs0.cell h2)).trans (h4 t ht)⟩
  ·intro x hx
   obtain⟨j,hj⟩:=List.getElem?_of_mem hx
   obtain⟨b,off,y,h1,h2,h3,h4,h5⟩:=RowIn.at HL.out (List.getElem?_eq_some_iff.1 hj).1
   rw[hj]at h3
   obtain rfl:=Option.some.inj h3
   exact nums_lenI h5.1
  ·intro j x hj
   refine ((hW.cell (p:=⟨fb,j,none⟩) (by show fb<W0.heap.size;omega)).trans (hs0.cell hfl)).trans ?_
   simp[World.cell?,HF.out,hj]
 have hfn:∀ k:Fin l.length,PlOk w (l.get k):=fun k=>by
  obtain⟨b,off,y,h1,h2,h3,h4,h5⟩:=RowIn.at HL.out k.isLt
  rw[List.getElem?_eq_getElem k.isLt]at h3
  obtain rfl:=Option.some.inj h3
  exact h5
 have HFN:=Lib.hid hfn
 clear hfn b2 b3
 refine wpIn_rangeFunc_ownH rfl (by decide) (gf:=146) (lb:=#[.pointer (some ⟨w.heap.size+2,0,none⟩),.pointer (some ⟨w.heap.size+3,0,none⟩)]) rfl trivial (enters_of Try.func146 (by kernel_rfl) rfl)
  hseq belowK_t (belowK_b (Nat.le_refl _)) (Below.refl _ _) (fun _=>rfl)
  (fun pre W=>((W.heap[w.heap.size]? = some (.cells #[.int .i64 xo,.int .i64 xd,.int .i64 xe,.int .i64 xa,.int .i64 xb,.int .i64 xc,.int .i32 xi,.slice xva xl xvc,.int .i64 xs] 58 (0,0))∧Boxed W (w.heap.size+1) 3 (.int .i64 0))∧(∀ k∈pre,noB l X k=true)∧W0.heap.size≤W.heap.size)∧Below w.heap.size w W)
  (fun c pre W=>(c=.ret∧∃ v,Boxed W (w.heap.size+1) 3 (.int .i64 v)∧∀ rest,findR l X (pre++rest)=v)∧Below w.heap.size w W)
  (OwnFrom.and (OwnFrom.and (OwnFrom.and (Own.from (cellsAt_own _ _ _) _) (Own.from (boxed_own _ _ _) _)) (fun _ _ _ _ hs hg _=>⟨hs.1,Nat.le_trans hs.2 hg.size⟩)) (ownFrom_below (Nat.le_refl _) (by omega)))
  (fun c=>OwnFrom.and (fun s A B row hs hg hr=>by obtain⟨h1,v,h2,h3⟩:=hs;exact⟨h1,v,boxed_own _ _ (fun _=>Value.int .i64 v) s A B row h2 hg (fun r e=>(hr r e).2),h3⟩) (ownFrom_below (Nat.le_refl _) (by omega)))
  ⟨⟨⟨b0,b1⟩,(fun k hk=>(by cases hk)),Nat.le_refl _⟩,hs0⟩
  (fun k a' W=>∃ Bx,w.heap.size+1<Bx∧W.heap[Bx]? = some (.cells (plcells (l.get k)).toArray 58 (0,0))∧a'={ tmps:=#[.slice a n cap,.slice (some ⟨fb,0,none⟩) n n,.agg #[.int .i64 xo,.int .i64 xd,.int .i64 xe,.int .i64 xa,.int .i64 xb,.int .i64 xc,.int .i32 xi,.slice xva xl xvc,.int .i64 xs],undef,undef,.pointer (some ⟨w.heap.size,0,none⟩),.pointer (some ⟨w.heap.size+1,0,none⟩),.int .i64 (k.val:Int),.pointer (some ⟨Bx,0,none⟩),.slice a n cap,.slice (some ⟨fb,0,none⟩) n n,.func (.func 146) #[] #[.pointer (some ⟨w.heap.size+2,0,none⟩),.pointer (some ⟨w.heap.size+3,0,none⟩)],.int .i64 (k.val:Int),plv (l.get k),undef,undef,undef,undef,undef,undef,undef,undef,undef],defers:=[] })
  (fun k a' _ Y Z row hs hg hr=>by obtain⟨Bx,h1,h2,h3⟩:=hs;exact⟨Bx,h1,cellsAt_own Bx _ 58 () Y Z row h2 hg (fun r e=>(hr r e).2),h3⟩)
  ?assign ?body ?done ?stop
 case assign =>
  rintro lk pre k W K ⟨⟨⟨hb0,hb1⟩,hno,hsz0⟩,hB⟩ hK
  have hlt1:=hb1.lt
  have hlt0:=lt_at hb0
  have hyok:=HFN.out k
  have HK:=Lib.hid hK
  have hI:∀ o,((((W.alloc o).heap[w.heap.size]? = some (.cells #[.int .i64 xo,.int .i64 xd,.int .i64 xe,.int .i64 xa,.int .i64 xb,.int .i64 xc,.int .i32 xi,.slice xva xl xvc,.int .i64 xs] 58 (0,0))∧Boxed (W.alloc o) (w.heap.size+1) 3 (.int .i64 0))∧(∀ k∈pre,noB l X k=true)∧W0.heap.size≤(W.alloc o).heap.size)∧Below w.heap.size w (W.alloc o)):=fun o =>
   ⟨⟨⟨((Since.refl W).alloc o).block _ hlt0 |>.trans hb0,hb1.alloc o⟩,hno,by rw[World.size_alloc];omega⟩,hB.alloc hB.size o⟩
  have HI:=Lib.hid hI
  clear hK hb0 hb1 hno hI
  obtain⟨Y,hY⟩:∃ Y,l.get k=Y:=⟨_,rfl⟩
  rw[hY]at hyok HK ⊢
  obtain⟨⟨yo,yd,ye,ya,yb,yc,yi,yr⟩,yv,ys⟩:=Y
  obtain⟨yva,yvc,hyv⟩:=nums_lenI hyok.1
  dsimp only at hyv
  subst hyv
  obtain⟨yl,hyl⟩:∃ q,yr.length=q:=⟨_,rfl⟩
  have hlw:w.heap.size+1<W.heap.size:=hlt1
  have hsz:=hB.size
  clear hyok hY
  unfold plv at HK ⊢
  dsimp only[plcells]at HK ⊢
  rw[hyl]at HK ⊢
  clear hyl
  gi_wp2
  exact HK.out _ _ ((KeepsOthers.alloc _ _).from _) ((Below.refl _ W).alloc (by omega) _) (HI.out _) ⟨W.heap.size,hlw,heap_last _ _,rfl⟩
 case body =>
  rintro lk pre k a' W hlk ⟨r,hr⟩ ⟨⟨⟨hb0,hb1⟩,hno,hsz0⟩,hB⟩ ⟨Bx,hBx,bX,rfl⟩ hlt
  have cx:=cells_at hb0
  have lx:=lt_at hb0
  have HNO:=Lib.hid hno
  have HB:=Lib.hid hB
  have HB1:=Lib.hid hb1
  have HB0:=Lib.hid hb0
  obtain⟨Y,hY⟩:∃ Y,Y=l.get k:=⟨_,rfl⟩
  have hYok:=HFN.out k
  have hnk:noB l X k=(!sameB X Y&&!dependsB Y.m X.m):=by rw[hY];rfl
  have hfr:∀ rest,findR l X (pre++[k]++rest)=(if sameB X Y then (k.val:Int) else if dependsB Y.m X.m then -1 else findR l X rest):=fun rest=>by rw[List.append_assoc,findR_skip _ hno,hY];rfl
  rw[←hY]at bX hYok ⊢
  have HNK:=Lib.hid hnk
  have HFR:=Lib.hid hfr
  clear hno hB hb1 hb0 hnk hfr hY
  have HYOK:=Lib.hid hYok
  have hYp:plv Y=.agg (plcells Y).toArray:=rfl
  have cy:=cells_at bX
  have ly:=lt_at bX
  obtain⟨sm,hsm⟩:∃ q,sameB X Y=q:=⟨_,rfl⟩
  obtain⟨dp,hdp⟩:∃ q,dependsB Y.m X.m=q:=⟨_,rfl⟩
  have hs1:=samepl_any X Y W (HXOK.out.1.keep HB.out) (HYOK.out.1.keep HB.out)
  have hs2:=fun W2 (s:Since W W2)=>depends_any Y.m X.m Y.av X.av W2 (HYOK.out.1.keep (Since.trans HB.out s)) (HXOK.out.1.keep (Since.trans HB.out s)) HYOK.out.2.1 HXOK.out.2.1
  rw[hsm]at hs1 HNK HFR
  rw[hdp]at hs2 HNK HFR
  rw[HXP.out]at hs1
  rw[HXM.out]at hs2
  obtain⟨⟨yo,yd,ye,ya,yb,yc,yi,yr⟩,yv,ys⟩:=Y
  obtain⟨yva,yvc,hyv⟩:=nums_lenI HYOK.out.1
  dsimp only at hyv
  subst hyv
  obtain⟨yl,hyl⟩:∃ q,yr.length=q:=⟨_,rfl⟩
  unfold plv at hs1 ⊢
  unfold mv at hs2
  dsimp only[plcells]at cy hs1 hs2 ⊢
  rw[hyl]at cy hs1 hs2 ⊢
  have HS1:=Lib.hid hs1
  have HS2:=Lib.hid hs2
  have hsz1:w.heap.size+1<W.heap.size:=HB1.out.lt
  clear hsm hdp hs1 hs2 hyl bX hYok hYp
  gi_wp2_with fail
  refine⟨trivial,?_⟩
  refine (CallsIn.inRound lk (callsIn_wide.2 HS1.out)).mono ?_
  rintro e w1 ⟨rfl,hs1⟩
  have HW1:=Lib.hid hs1
  have hb1:Boxed w1 (w.heap.size+1) 3 (.int .i64 0):=(hs1.block _ HB1.out.lt).trans HB1.out
  have HBX1:=Lib.hid hb1
  have hc1:=hb1.cell
  have hf1:=hb1.frozen
  have hl1:=hb1.lt
  have hsz0W:W0.heap.size≤w1.heap.size:=Nat.le_trans hsz0 hs1.size
  have hww:w.heap.size<w1.heap.size:=by omega
  have hBxw:Bx<w1.heap.size:=Nat.lt_of_lt_of_le ly hs1.size
  have cx1:=fun i=>(hs1.cell (p:=⟨w.heap.size,i,none⟩) lx).trans (cx i)
  have cy1:=fun i=>(hs1.cell (p:=⟨Bx,i,none⟩) ly).trans (cy i)
  clear hs1 hb1 cx cy
  cases sm
  ·gi_wp2_with fail
   refine⟨trivial,?_⟩
   refine (CallsIn.inRound lk (callsIn_wide.2 (HS2.out w1 HW1.out))).mono ?_
   rintro e w2 ⟨rfl,hs2⟩
   have HW2:=Lib.hid (Since.trans HW1.out hs2)
   have hb2:Boxed w2 (w.heap.size+1) 3 (.int .i64 0):=(hs2.block _ hl1).trans HBX1.out
   have HBX2:=Lib.hid hb2
   have hc2:=hb2.cell
   have hf2:=hb2.frozen
   have hl2:=hb2.lt
   have hsz2:W0.heap.size≤w2.heap.size:=Nat.le_trans hsz0W hs2.size
   clear hs2 hb2 hc1 hf1 cx1 cy1
   cases dp
   ·gi_wp2
    exact⟨keeps_below HW2.out _,HW2.out.mono hsz0,⟨⟨(HW2.out.block _ lx).trans HB0.out,HBX2.out⟩,(fun y hy=>by
     rcases List.mem_append.1 hy with h|h
     ·exact HNO.out y h
     ·obtain rfl:=List.mem_singleton.1 h;rw[HNK.out];rfl),hsz2⟩,HB.out.trans (HW2.out.mono (by omega))⟩
   ·gi_wp2
    refine⟨(keeps_below HW2.out _).trans ((KeepsOthers.setCell _ _ _).from _),⟨rfl,_,HBX2.out.set _,fun rest=>?_⟩,(HB.out.trans (HW2.out.mono (by omega))).setCell (p:=⟨w.heap.size+1,0,none⟩) (by simp) _⟩
    rw[HFR.out];rfl
  ·gi_wp2
   refine⟨(keeps_below HW1.out _).trans ((KeepsOthers.setCell _ _ _).from _),⟨rfl,_,HBX1.out.set _,fun rest=>?_⟩,(HB.out.trans (HW1.out.mono (by omega))).setCell (p:=⟨w.heap.size+1,0,none⟩) (by simp) _⟩
   rw[HFR.out];rfl
 case done =>
  rintro D ys W hD rfl ⟨⟨⟨hb0,hb1⟩,hno,hsz0⟩,hB⟩ hK
  have hc1:=hb1.cell
  have hf1:=hb1.frozen
  gi_wp2
  have hK':=(KeepsOthers.setCell W ⟨w.heap.size+1,0,none⟩ (.int .i64 (-1))).same D _ hK rfl
  refine⟨by simp,.inl ⟨_,_,rfl,run_takeDeferred hK',?_⟩⟩
  have hc5:=cell_kept (World.cell?_setCell_same' W ⟨w.heap.size+1,0,none⟩ (.int .i64 (-1)) (by rw[hc1];rfl)) (grownBy_putObj' _ D (.deferred none)) (fun r e=>by cases e;exact⟨_,hK',rfl⟩)
  have hfin:findI l found X=-1:=by
   have h:=findR_skip (l:=l) (x:=X) [] hno
   rw[List.append_nil]at h
   exact h
  refine⟨.int .i64 (-1),?_,by rw[←HXE.out,hfin],(hB.setCell (p:=⟨w.heap.size+1,0,none⟩) (by simp) _).trans (belowK_b (w:=w) (Nat.le_refl _) _ D _ _ (by omega) hK' rfl rfl)⟩
  simp[results,Try.f95,go_sem,hc5]
 case stop =>
  rintro D c pre W hD hpre ⟨⟨rfl,v,hb1,hv⟩,hB⟩ hK
  have hc1:=hb1.cell
  gi_wp2
  refine⟨by simp,.inl ⟨_,_,rfl,run_takeDeferred hK,?_⟩⟩
  have hc5:=cell_kept hc1 (grownBy_putObj' _ D (.deferred none)) (fun r e=>by cases e;exact⟨_,hK,rfl⟩)
  have hfin:findI l found X=v:=by
   obtain⟨rest,hrest⟩:=hpre
   unfold findI
   rw[←hrest];exact hv rest
  refine⟨.int .i64 v,?_,by rw[hfin],hB.trans (belowK_b (w:=w) (Nat.le_refl _) W D _ _ (by omega) hK rfl rfl)⟩
  simp[results,Try.f95,go_sem,hc5]
end Go.Proofs.Ytkpbmbhejpmboaa
