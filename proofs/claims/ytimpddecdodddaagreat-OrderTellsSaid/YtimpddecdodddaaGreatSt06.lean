import Derived.Test.YtimpddecdodddaaGreatSt04
namespace Go.Proofs.YtimpddecdodddaaGreat
open Go.Proofs.Tryz Go.RowKit Go.Lib
set_option linter.unusedVariables false
set_option maxHeartbeats 2000000
set_option maxRecDepth 100000
theorem zX {P:Prop} (h:P:=by
 go_wp2_with fail
 refine (QI _ _ _ _ _ (HX.out.keep (((Since.refl _).alloc _).alloc _)) (HY.out.keep (((Since.refl _).alloc _).alloc _))).mono ?_;rintro e w1 ⟨rfl,hc⟩;go_wp2
 go_ret
 exact⟨rfl,(((Since.refl _).alloc _).alloc _).trans hc⟩):P:=h
theorem qf {P:Prop} (h:P:=by
 subst hb;subst ha;have HX:=hid hx;have HY:=hid hy;clear hx hy;unfold mv;dsimp only;go_enter func119,ntmps119
 go_wp2
 go_ret
 exact⟨rfl,(((Since.refl _).alloc _).alloc _)⟩):P:=h
theorem ZdC (x y:Mach) (xv yv:Value) (w:World) (hx:Zd w xv x.args) (hy:Zd w yv y.args) (h0:(x.op==y.op)=false):Calls prog 119 #[mv x xv,mv y yv] w (ZD false w):=by
 obtain⟨o1,d1,e1,a1,b1,c1,i1,l1⟩:=x;obtain⟨o2,d2,e2,a2,b2,c2,i2,l2⟩:=y;obtain⟨q1,k1,hb⟩:=Zc hx;obtain⟨q2,k2,ha⟩:=Zc hy;dsimp only at hb ha h0;exact qf
theorem ZdB (x y:Mach) (xv yv:Value) (w:World) (hx:Zd w xv x.args) (hy:Zd w yv y.args) (h0:(x.op==y.op)=true) (h1:(x.d==y.d)=false):Calls prog 119 #[mv x xv,mv y yv] w (ZD false w):=by
 obtain⟨o1,d1,e1,a1,b1,c1,i1,l1⟩:=x;obtain⟨o2,d2,e2,a2,b2,c2,i2,l2⟩:=y;obtain⟨q1,k1,hb⟩:=Zc hx;obtain⟨q2,k2,ha⟩:=Zc hy;dsimp only at hb ha h0 h1;exact qf
theorem ZdA (x y:Mach) (xv yv:Value) (w:World) (hx:Zd w xv x.args) (hy:Zd w yv y.args) (h0:(x.op==y.op)=true) (h1:(x.d==y.d)=true) (h2:(x.e==y.e)=false):Calls prog 119 #[mv x xv,mv y yv] w (ZD false w):=by
 obtain⟨o1,d1,e1,a1,b1,c1,i1,l1⟩:=x;obtain⟨o2,d2,e2,a2,b2,c2,i2,l2⟩:=y;obtain⟨q1,k1,hb⟩:=Zc hx;obtain⟨q2,k2,ha⟩:=Zc hy;dsimp only at hb ha h0 h1 h2;exact qf
theorem Zdz (x y:Mach) (xv yv:Value) (w:World) (hx:Zd w xv x.args) (hy:Zd w yv y.args) (h0:(x.op==y.op)=true) (h1:(x.d==y.d)=true) (h2:(x.e==y.e)=true) (h3:(x.a==y.a)=false):Calls prog 119 #[mv x xv,mv y yv] w (ZD false w):=by
 obtain⟨o1,d1,e1,a1,b1,c1,i1,l1⟩:=x;obtain⟨o2,d2,e2,a2,b2,c2,i2,l2⟩:=y;obtain⟨q1,k1,hb⟩:=Zc hx;obtain⟨q2,k2,ha⟩:=Zc hy;dsimp only at hb ha h0 h1 h2 h3;exact qf
theorem Zdy (x y:Mach) (xv yv:Value) (w:World) (hx:Zd w xv x.args) (hy:Zd w yv y.args) (h0:(x.op==y.op)=true) (h1:(x.d==y.d)=true) (h2:(x.e==y.e)=true) (h3:(x.a==y.a)=true) (h4:(x.b==y.b)=false):Calls prog 119 #[mv x xv,mv y yv] w (ZD false w):=by
 obtain⟨o1,d1,e1,a1,b1,c1,i1,l1⟩:=x;obtain⟨o2,d2,e2,a2,b2,c2,i2,l2⟩:=y;obtain⟨q1,k1,hb⟩:=Zc hx;obtain⟨q2,k2,ha⟩:=Zc hy;dsimp only at hb ha h0 h1 h2 h3 h4;exact qf
theorem Zdx (x y:Mach) (xv yv:Value) (w:World) (hx:Zd w xv x.args) (hy:Zd w yv y.args) (h0:(x.op==y.op)=true) (h1:(x.d==y.d)=true) (h2:(x.e==y.e)=true) (h3:(x.a==y.a)=true) (h4:(x.b==y.b)=true) (h5:(x.c==y.c)=false):Calls prog 119 #[mv x xv,mv y yv] w (ZD false w):=by
 obtain⟨o1,d1,e1,a1,b1,c1,i1,l1⟩:=x;obtain⟨o2,d2,e2,a2,b2,c2,i2,l2⟩:=y;obtain⟨q1,k1,hb⟩:=Zc hx;obtain⟨q2,k2,ha⟩:=Zc hy;dsimp only at hb ha h0 h1 h2 h3 h4 h5;exact qf
theorem Zdw (x y:Mach) (xv yv:Value) (w:World) (hx:Zd w xv x.args) (hy:Zd w yv y.args) (h0:(x.op==y.op)=true) (h1:(x.d==y.d)=true) (h2:(x.e==y.e)=true) (h3:(x.a==y.a)=true) (h4:(x.b==y.b)=true) (h5:(x.c==y.c)=true) (h6:(x.imm==y.imm)=false):Calls prog 119 #[mv x xv,mv y yv] w (ZD false w):=by
 obtain⟨o1,d1,e1,a1,b1,c1,i1,l1⟩:=x;obtain⟨o2,d2,e2,a2,b2,c2,i2,l2⟩:=y;obtain⟨q1,k1,hb⟩:=Zc hx;obtain⟨q2,k2,ha⟩:=Zc hy;dsimp only at hb ha h0 h1 h2 h3 h4 h5 h6;exact qf
theorem Zdv (x y:Mach) (xv yv:Value) (w:World) (hx:Zd w xv x.args) (hy:Zd w yv y.args) (h0:(x.op==y.op)=true) (h1:(x.d==y.d)=true) (h2:(x.e==y.e)=true) (h3:(x.a==y.a)=true) (h4:(x.b==y.b)=true) (h5:(x.c==y.c)=true) (h6:(x.imm==y.imm)=true):Calls prog 119 #[mv x xv,mv y yv] w (ZD (numsB x.args y.args) w):=by
 obtain⟨o1,d1,e1,a1,b1,c1,i1,l1⟩:=x;obtain⟨o2,d2,e2,a2,b2,c2,i2,l2⟩:=y;obtain⟨q1,k1,hb⟩:=Zc hx;obtain⟨q2,k2,ha⟩:=Zc hy;dsimp only at hb ha h0 h1 h2 h3 h4 h5 h6;subst hb;subst ha;have HX:=hid hx;have HY:=hid hy;clear hx hy;unfold mv;dsimp only;go_enter func119,ntmps119
 exact zX
theorem ZbH (x y:Mach) (xv yv:Value) (w:World) (hx:Zd w xv x.args) (hy:Zd w yv y.args):Calls prog 119 #[mv x xv,mv y yv] w (ZD (Xu x y) w):=by
 unfold Xu
 cases h0:(x.op==y.op) with
 | false=>exact ZdC x y xv yv w hx hy h0
 | true =>
  cases h1:(x.d==y.d) with
  | false=>exact ZdB x y xv yv w hx hy h0 h1
  | true =>
   cases h2:(x.e==y.e) with
   | false=>exact ZdA x y xv yv w hx hy h0 h1 h2
   | true =>
    cases h3:(x.a==y.a) with
    | false=>exact Zdz x y xv yv w hx hy h0 h1 h2 h3
    | true =>
     cases h4:(x.b==y.b) with
     | false=>exact Zdy x y xv yv w hx hy h0 h1 h2 h3 h4
     | true =>
      cases h5:(x.c==y.c) with
      | false=>exact Zdx x y xv yv w hx hy h0 h1 h2 h3 h4 h5
      | true =>
       cases h6:(x.imm==y.imm) with
       | false=>exact Zdw x y xv yv w hx hy h0 h1 h2 h3 h4 h5 h6
       | true =>
        exact Zdv x y xv yv w hx hy h0 h1 h2 h3 h4 h5 h6
end Go.Proofs.YtimpddecdodddaaGreat
