import Derived.Test.YtimpddecdodddaaGreatSb37
namespace Go.Proofs.YtimpddecdodddaaGreat
open Go.RowKit Go.Lib
set_option linter.unusedVariables false
set_option maxHeartbeats 4000000
set_option maxRecDepth 100000
theorem qA {P:Prop} (h:P:=by
 go_enter Tryz.func102,Tryz.ntmps102
 go_wp2
 go_ret
 exact Zp ((Since.refl _).alloc _) _ _ (by simp) rfl (by simp[maxLen]) rfl):P:=h
theorem qB {P:Prop} (h:P:=by
 go_enter Tryz.func101,Tryz.ntmps101
 go_wp2
 go_ret
 exact Zp ((Since.refl _).alloc _) _ _ (by simp) rfl (by simp[maxLen]) rfl):P:=h
theorem q7 {P:Prop} (h:P:=by
 go_enter Tryz.func102,Tryz.ntmps102
 go_wp2
 go_ret
 exact ZP ((Since.refl _).alloc _)):P:=h
theorem q8 {P:Prop} (h:P:=by
 go_enter Tryz.func101,Tryz.ntmps101
 go_wp2
 go_ret
 exact ZP ((Since.refl _).alloc _)):P:=h
theorem JJ (m:Mach) (av:Value) (w:World) (h:Zi w av m.args) (hl:m.args.length≤1000) :
  Calls Tryz.prog 101 #[mv m av] w (YK w (takes7 m)):=by
 have H:=hid h;clear h;unfold mv;by_cases g:m.op=1
 ·have e:takes7 m=[m.a]:=by unfold takes7;rw[if_pos kT]
  rw[e];clear e;have e1:(m.op==1)=true:=by simp;omega
  have e2:=zN m.op 2;have e23:=zN m.op 23;have e24:=zN m.op 24;have e25:=zN m.op 25;have e26:=zN m.op 26;have e27:=zN m.op 27;have e28:=zN m.op 28;have e29:=zN m.op 29;have e31:=zN m.op 31;have c5:¬ 5≤m.op:=kT
  have c18:¬ 18≤m.op:=kT
  have d17:m.op≤17:=kT
  have d22:m.op≤22:=kT
  have p1:¬ m.op<1:=kT
  have p2:¬ 31<m.op:=kT
  clear g;exact qB
 have n0:=g;clear g;by_cases g:m.op=2
 ·have e:takes7 m=[m.a,m.b]:=by unfold takes7;rw[if_neg kT,if_pos kT]
  rw[e];clear e;have e1:=zN m.op 1;have e2:(m.op==2)=true:=by simp;omega
  have e23:=zN m.op 23;have e24:=zN m.op 24;have e25:=zN m.op 25;have e26:=zN m.op 26;have e27:=zN m.op 27;have e28:=zN m.op 28;have e29:=zN m.op 29;have e31:=zN m.op 31;have c5:¬ 5≤m.op:=kT
  have c18:¬ 18≤m.op:=kT
  have d17:m.op≤17:=kT
  have d22:m.op≤22:=kT
  have p1:¬ m.op<1:=kT
  have p2:¬ 31<m.op:=kT
  clear g;clear n0;exact qB
 have n1:=g;clear g;by_cases g:m.op=23
 ·have e:takes7 m=[m.a,m.b,m.c]:=by unfold takes7;rw[if_neg kT,if_neg kT,if_pos kT]
  rw[e];clear e;have e1:=zN m.op 1;have e2:=zN m.op 2;have e23:(m.op==23)=true:=by simp;omega
  have e24:=zN m.op 24;have e25:=zN m.op 25;have e26:=zN m.op 26;have e27:=zN m.op 27;have e28:=zN m.op 28;have e29:=zN m.op 29;have e31:=zN m.op 31;have c5:5≤m.op:=kT
  have c18:18≤m.op:=kT
  have d17:¬ m.op≤17:=kT
  have d22:¬ m.op≤22:=kT
  have p1:¬ m.op<1:=kT
  have p2:¬ 31<m.op:=kT
  clear g;clear n0 n1;exact qB
 have n2:=g;clear g;by_cases g:m.op=24
 ·have e:takes7 m=[m.a]:=by unfold takes7;rw[if_pos kT]
  rw[e];clear e;have e1:=zN m.op 1;have e2:=zN m.op 2;have e23:=zN m.op 23;have e24:(m.op==24)=true:=by simp;omega
  have e25:=zN m.op 25;have e26:=zN m.op 26;have e27:=zN m.op 27;have e28:=zN m.op 28;have e29:=zN m.op 29;have e31:=zN m.op 31;have c5:5≤m.op:=kT
  have c18:18≤m.op:=kT
  have d17:¬ m.op≤17:=kT
  have d22:¬ m.op≤22:=kT
  have p1:¬ m.op<1:=kT
  have p2:¬ 31<m.op:=kT
  clear g;clear n0 n1 n2;exact qB
 have n3:=g;clear g;by_cases g:m.op=25
 ·have e:takes7 m=[m.a,m.b]:=by unfold takes7;rw[if_neg kT,if_pos kT]
  rw[e];clear e;have e1:=zN m.op 1;have e2:=zN m.op 2;have e23:=zN m.op 23;have e24:=zN m.op 24;have e25:(m.op==25)=true:=by simp;omega
  have e26:=zN m.op 26;have e27:=zN m.op 27;have e28:=zN m.op 28;have e29:=zN m.op 29;have e31:=zN m.op 31;have c5:5≤m.op:=kT
  have c18:18≤m.op:=kT
  have d17:¬ m.op≤17:=kT
  have d22:¬ m.op≤22:=kT
  have p1:¬ m.op<1:=kT
  have p2:¬ 31<m.op:=kT
  clear g;clear n0 n1 n2 n3;exact qB
 have n4:=g;clear g;by_cases g:m.op=26
 ·have e:takes7 m=[m.a,m.b]:=by unfold takes7;rw[if_neg kT,if_pos kT]
  rw[e];clear e;have e1:=zN m.op 1;have e2:=zN m.op 2;have e23:=zN m.op 23;have e24:=zN m.op 24;have e25:=zN m.op 25;have e26:(m.op==26)=true:=by simp;omega
  have e27:=zN m.op 27;have e28:=zN m.op 28;have e29:=zN m.op 29;have e31:=zN m.op 31;have c5:5≤m.op:=kT
  have c18:18≤m.op:=kT
  have d17:¬ m.op≤17:=kT
  have d22:¬ m.op≤22:=kT
  have p1:¬ m.op<1:=kT
  have p2:¬ 31<m.op:=kT
  clear g;clear n0 n1 n2 n3 n4;exact qB
 have n5:=g;clear g;by_cases g:m.op=27
 ·have e:takes7 m=[m.a,m.b,m.c]:=by unfold takes7;rw[if_neg kT,if_neg kT,if_pos kT]
  rw[e];clear e;have e1:=zN m.op 1;have e2:=zN m.op 2;have e23:=zN m.op 23;have e24:=zN m.op 24;have e25:=zN m.op 25;have e26:=zN m.op 26;have e27:(m.op==27)=true:=by simp;omega
  have e28:=zN m.op 28;have e29:=zN m.op 29;have e31:=zN m.op 31;have c5:5≤m.op:=kT
  have c18:18≤m.op:=kT
  have d17:¬ m.op≤17:=kT
  have d22:¬ m.op≤22:=kT
  have p1:¬ m.op<1:=kT
  have p2:¬ 31<m.op:=kT
  clear g;clear n0 n1 n2 n3 n4 n5;exact qB
 have n6:=g;clear g;by_cases g:m.op=28
 ·have e:takes7 m=m.args:=by unfold takes7;rw[if_neg kT,if_neg kT,if_neg kT,if_pos kT]
  rw[e];clear e;have e1:=zN m.op 1;have e2:=zN m.op 2;have e23:=zN m.op 23;have e24:=zN m.op 24;have e25:=zN m.op 25;have e26:=zN m.op 26;have e27:=zN m.op 27;have e28:(m.op==28)=true:=by simp;omega
  have e29:=zN m.op 29;have e31:=zN m.op 31;have c5:5≤m.op:=kT
  have c18:18≤m.op:=kT
  have d17:¬ m.op≤17:=kT
  have d22:¬ m.op≤22:=kT
  have p1:¬ m.op<1:=kT
  have p2:¬ 31<m.op:=kT
  clear g;clear n0 n1 n2 n3 n4 n5 n6;go_enter Tryz.func101,Tryz.ntmps101
  go_wp2_with (at_builtin;refine YA (w0:=w) .i64 rfl _ _ 22 rfl 3 (.int .i64 0) 8 Tryz.underlying22 Tryz.info3 rfl kS _ _ [] m.args rfl rfl (Wu kU (Since.alloc (Since.refl _) _).size _ _) (H.out.keep (((Since.refl _).alloc _).alloc _)) kN (((Since.refl _).alloc _).alloc _) ?_;intro v' w' ha hs)
  go_ret
  exact⟨_,rfl,ZF ha,hs⟩
 have n7:=g;clear g;by_cases g:m.op=29
 ·have e:takes7 m=[m.a,m.b]:=by unfold takes7;rw[if_neg kT,if_pos kT]
  rw[e];clear e;have e1:=zN m.op 1;have e2:=zN m.op 2;have e23:=zN m.op 23;have e24:=zN m.op 24;have e25:=zN m.op 25;have e26:=zN m.op 26;have e27:=zN m.op 27;have e28:=zN m.op 28;have e29:(m.op==29)=true:=by simp;omega
  have e31:=zN m.op 31;have c5:5≤m.op:=kT
  have c18:18≤m.op:=kT
  have d17:¬ m.op≤17:=kT
  have d22:¬ m.op≤22:=kT
  have p1:¬ m.op<1:=kT
  have p2:¬ 31<m.op:=kT
  clear g;clear n0 n1 n2 n3 n4 n5 n6 n7;exact qB
 have n8:=g;clear g;by_cases g:m.op=31
 ·have e:takes7 m=[m.a]:=by unfold takes7;rw[if_pos kT]
  rw[e];clear e;have e1:=zN m.op 1;have e2:=zN m.op 2;have e23:=zN m.op 23;have e24:=zN m.op 24;have e25:=zN m.op 25;have e26:=zN m.op 26;have e27:=zN m.op 27;have e28:=zN m.op 28;have e29:=zN m.op 29;have e31:(m.op==31)=true:=by simp;omega
  have c5:5≤m.op:=kT
  have c18:18≤m.op:=kT
  have d17:¬ m.op≤17:=kT
  have d22:¬ m.op≤22:=kT
  have p1:¬ m.op<1:=kT
  have p2:¬ 31<m.op:=kT
  clear g;clear n0 n1 n2 n3 n4 n5 n6 n7 n8;exact qB
 have n9:=g;clear g;by_cases g:5≤m.op∧m.op≤17
 ·have e:takes7 m=[m.a,m.b]:=by unfold takes7;rw[if_neg kT,if_pos kT]
  rw[e];clear e;have e1:=zN m.op 1;have e2:=zN m.op 2;have e23:=zN m.op 23;have e24:=zN m.op 24;have e25:=zN m.op 25;have e26:=zN m.op 26;have e27:=zN m.op 27;have e28:=zN m.op 28;have e29:=zN m.op 29;have e31:=zN m.op 31;have c5:5≤m.op:=kT
  have c18:¬ 18≤m.op:=kT
  have d17:m.op≤17:=kT
  have d22:m.op≤22:=kT
  have p1:¬ m.op<1:=kT
  have p2:¬ 31<m.op:=kT
  clear g;clear n0 n1 n2 n3 n4 n5 n6 n7 n8 n9;exact qB
 have n10:=g;clear g;by_cases g:18≤m.op∧m.op≤22
 ·have e:takes7 m=[m.a]:=by unfold takes7;rw[if_pos kT]
  rw[e];clear e;have e1:=zN m.op 1;have e2:=zN m.op 2;have e23:=zN m.op 23;have e24:=zN m.op 24;have e25:=zN m.op 25;have e26:=zN m.op 26;have e27:=zN m.op 27;have e28:=zN m.op 28;have e29:=zN m.op 29;have e31:=zN m.op 31;have c5:5≤m.op:=kT
  have c18:18≤m.op:=kT
  have d17:¬ m.op≤17:=kT
  have d22:m.op≤22:=kT
  have p1:¬ m.op<1:=kT
  have p2:¬ 31<m.op:=kT
  clear g;clear n0 n1 n2 n3 n4 n5 n6 n7 n8 n9 n10;exact qB
 have n11:=g;clear g;by_cases g:m.op<1
 ·have e:takes7 m=[]:=by unfold takes7;rw[if_neg kT,if_neg kT,if_neg kT,if_neg kT]
  rw[e];clear e;have e1:=zN m.op 1;have e2:=zN m.op 2;have e23:=zN m.op 23;have e24:=zN m.op 24;have e25:=zN m.op 25;have e26:=zN m.op 26;have e27:=zN m.op 27;have e28:=zN m.op 28;have e29:=zN m.op 29;have e31:=zN m.op 31;have c5:¬ 5≤m.op:=kT
  have c18:¬ 18≤m.op:=kT
  have d17:m.op≤17:=kT
  have d22:m.op≤22:=kT
  have p1:m.op<1:=kT
  have p2:¬ 31<m.op:=kT
  clear g;clear n0 n1 n2 n3 n4 n5 n6 n7 n8 n9 n10 n11;exact q8
 have n12:=g;clear g;by_cases g:31<m.op
 ·have e:takes7 m=[]:=by unfold takes7;rw[if_neg kT,if_neg kT,if_neg kT,if_neg kT]
  rw[e];clear e;have e1:=zN m.op 1;have e2:=zN m.op 2;have e23:=zN m.op 23;have e24:=zN m.op 24;have e25:=zN m.op 25;have e26:=zN m.op 26;have e27:=zN m.op 27;have e28:=zN m.op 28;have e29:=zN m.op 29;have e31:=zN m.op 31;have c5:5≤m.op:=kT
  have c18:18≤m.op:=kT
  have d17:¬ m.op≤17:=kT
  have d22:¬ m.op≤22:=kT
  have p1:¬ m.op<1:=kT
  have p2:31<m.op:=kT
  clear g;clear n0 n1 n2 n3 n4 n5 n6 n7 n8 n9 n10 n11 n12;exact q8
 have n13:=g;clear g;by_cases g:m.op=30
 ·have e:takes7 m=[]:=by unfold takes7;rw[if_neg kT,if_neg kT,if_neg kT,if_neg kT]
  rw[e];clear e;have e1:=zN m.op 1;have e2:=zN m.op 2;have e23:=zN m.op 23;have e24:=zN m.op 24;have e25:=zN m.op 25;have e26:=zN m.op 26;have e27:=zN m.op 27;have e28:=zN m.op 28;have e29:=zN m.op 29;have e31:=zN m.op 31;have c5:5≤m.op:=kT
  have c18:18≤m.op:=kT
  have d17:¬ m.op≤17:=kT
  have d22:¬ m.op≤22:=kT
  have p1:¬ m.op<1:=kT
  have p2:¬ 31<m.op:=kT
  clear g;clear n0 n1 n2 n3 n4 n5 n6 n7 n8 n9 n10 n11 n12 n13;exact q8
 have n14:=g;clear g;have g:m.op=3∨m.op=4:=kT
 have e:takes7 m=[]:=by unfold takes7;rw[if_neg kT,if_neg kT,if_neg kT,if_neg kT]
 rw[e];clear e;have e1:=zN m.op 1;have e2:=zN m.op 2;have e23:=zN m.op 23;have e24:=zN m.op 24;have e25:=zN m.op 25;have e26:=zN m.op 26;have e27:=zN m.op 27;have e28:=zN m.op 28;have e29:=zN m.op 29;have e31:=zN m.op 31;have c5:¬ 5≤m.op:=kT
 have c18:¬ 18≤m.op:=kT
 have d17:m.op≤17:=kT
 have d22:m.op≤22:=kT
 have p1:¬ m.op<1:=kT
 have p2:¬ 31<m.op:=kT
 clear g;clear n0 n1 n2 n3 n4 n5 n6 n7 n8 n9 n10 n11 n12 n13 n14;exact q8
theorem JK (m:Mach) (av:Value) (w:World) (h:Zi w av m.args) (hl:m.args.length≤1000) :
  Calls Tryz.prog 102 #[mv m av] w (YK w (makes7 m)):=by
 have H:=hid h;clear h;unfold mv;by_cases g:m.op=1
 ·have e:makes7 m=[m.d]:=by unfold makes7;rw[if_neg kT,if_neg kT,if_neg kT]
  rw[e];clear e;have e1:(m.op==1)=true:=by simp;omega
  have e2:=zN m.op 2;have e23:=zN m.op 23;have e24:=zN m.op 24;have e25:=zN m.op 25;have e26:=zN m.op 26;have e27:=zN m.op 27;have e28:=zN m.op 28;have e29:=zN m.op 29;have e31:=zN m.op 31;have c5:¬ 5≤m.op:=kT
  have c18:¬ 18≤m.op:=kT
  have d17:m.op≤17:=kT
  have d22:m.op≤22:=kT
  have p1:¬ m.op<1:=kT
  have p2:¬ 31<m.op:=kT
  clear g;exact qA
 have n0:=g;clear g;by_cases g:m.op=2
 ·have e:makes7 m=[m.a,m.b]:=by unfold makes7;rw[if_pos kT]
  rw[e];clear e;have e1:=zN m.op 1;have e2:(m.op==2)=true:=by simp;omega
  have e23:=zN m.op 23;have e24:=zN m.op 24;have e25:=zN m.op 25;have e26:=zN m.op 26;have e27:=zN m.op 27;have e28:=zN m.op 28;have e29:=zN m.op 29;have e31:=zN m.op 31;have c5:¬ 5≤m.op:=kT
  have c18:¬ 18≤m.op:=kT
  have d17:m.op≤17:=kT
  have d22:m.op≤22:=kT
  have p1:¬ m.op<1:=kT
  have p2:¬ 31<m.op:=kT
  clear g;clear n0;exact qA
 have n1:=g;clear g;by_cases g:m.op=23
 ·have e:makes7 m=[m.d]:=by unfold makes7;rw[if_neg kT,if_neg kT,if_neg kT]
  rw[e];clear e;have e1:=zN m.op 1;have e2:=zN m.op 2;have e23:(m.op==23)=true:=by simp;omega
  have e24:=zN m.op 24;have e25:=zN m.op 25;have e26:=zN m.op 26;have e27:=zN m.op 27;have e28:=zN m.op 28;have e29:=zN m.op 29;have e31:=zN m.op 31;have c5:5≤m.op:=kT
  have c18:18≤m.op:=kT
  have d17:¬ m.op≤17:=kT
  have d22:¬ m.op≤22:=kT
  have p1:¬ m.op<1:=kT
  have p2:¬ 31<m.op:=kT
  clear g;clear n0 n1;exact qA
 have n2:=g;clear g;by_cases g:m.op=24
 ·have e:makes7 m=[m.d]:=by unfold makes7;rw[if_neg kT,if_neg kT,if_neg kT]
  rw[e];clear e;have e1:=zN m.op 1;have e2:=zN m.op 2;have e23:=zN m.op 23;have e24:(m.op==24)=true:=by simp;omega
  have e25:=zN m.op 25;have e26:=zN m.op 26;have e27:=zN m.op 27;have e28:=zN m.op 28;have e29:=zN m.op 29;have e31:=zN m.op 31;have c5:5≤m.op:=kT
  have c18:18≤m.op:=kT
  have d17:¬ m.op≤17:=kT
  have d22:¬ m.op≤22:=kT
  have p1:¬ m.op<1:=kT
  have p2:¬ 31<m.op:=kT
  clear g;clear n0 n1 n2;exact qA
 have n3:=g;clear g;by_cases g:m.op=25
 ·have e:makes7 m=[m.d]:=by unfold makes7;rw[if_neg kT,if_neg kT,if_neg kT]
  rw[e];clear e;have e1:=zN m.op 1;have e2:=zN m.op 2;have e23:=zN m.op 23;have e24:=zN m.op 24;have e25:(m.op==25)=true:=by simp;omega
  have e26:=zN m.op 26;have e27:=zN m.op 27;have e28:=zN m.op 28;have e29:=zN m.op 29;have e31:=zN m.op 31;have c5:5≤m.op:=kT
  have c18:18≤m.op:=kT
  have d17:¬ m.op≤17:=kT
  have d22:¬ m.op≤22:=kT
  have p1:¬ m.op<1:=kT
  have p2:¬ 31<m.op:=kT
  clear g;clear n0 n1 n2 n3;exact qA
 have n4:=g;clear g;by_cases g:m.op=26
 ·have e:makes7 m=[]:=by unfold makes7;rw[if_neg kT,if_neg kT,if_pos kT]
  rw[e];clear e;have e1:=zN m.op 1;have e2:=zN m.op 2;have e23:=zN m.op 23;have e24:=zN m.op 24;have e25:=zN m.op 25;have e26:(m.op==26)=true:=by simp;omega
  have e27:=zN m.op 27;have e28:=zN m.op 28;have e29:=zN m.op 29;have e31:=zN m.op 31;have c5:5≤m.op:=kT
  have c18:18≤m.op:=kT
  have d17:¬ m.op≤17:=kT
  have d22:¬ m.op≤22:=kT
  have p1:¬ m.op<1:=kT
  have p2:¬ 31<m.op:=kT
  clear g;clear n0 n1 n2 n3 n4;exact q7
 have n5:=g;clear g;by_cases g:m.op=27
 ·have e:makes7 m=[]:=by unfold makes7;rw[if_neg kT,if_neg kT,if_pos kT]
  rw[e];clear e;have e1:=zN m.op 1;have e2:=zN m.op 2;have e23:=zN m.op 23;have e24:=zN m.op 24;have e25:=zN m.op 25;have e26:=zN m.op 26;have e27:(m.op==27)=true:=by simp;omega
  have e28:=zN m.op 28;have e29:=zN m.op 29;have e31:=zN m.op 31;have c5:5≤m.op:=kT
  have c18:18≤m.op:=kT
  have d17:¬ m.op≤17:=kT
  have d22:¬ m.op≤22:=kT
  have p1:¬ m.op<1:=kT
  have p2:¬ 31<m.op:=kT
  clear g;clear n0 n1 n2 n3 n4 n5;exact q7
 have n6:=g;clear g;by_cases g:m.op=28
 ·have e:makes7 m=[m.d]:=by unfold makes7;rw[if_neg kT,if_neg kT,if_neg kT]
  rw[e];clear e;have e1:=zN m.op 1;have e2:=zN m.op 2;have e23:=zN m.op 23;have e24:=zN m.op 24;have e25:=zN m.op 25;have e26:=zN m.op 26;have e27:=zN m.op 27;have e28:(m.op==28)=true:=by simp;omega
  have e29:=zN m.op 29;have e31:=zN m.op 31;have c5:5≤m.op:=kT
  have c18:18≤m.op:=kT
  have d17:¬ m.op≤17:=kT
  have d22:¬ m.op≤22:=kT
  have p1:¬ m.op<1:=kT
  have p2:¬ 31<m.op:=kT
  clear g;clear n0 n1 n2 n3 n4 n5 n6;exact qA
 have n7:=g;clear g;by_cases g:m.op=29
 ·have e:makes7 m=[m.d,m.e]:=by unfold makes7;rw[if_neg kT,if_pos kT]
  rw[e];clear e;have e1:=zN m.op 1;have e2:=zN m.op 2;have e23:=zN m.op 23;have e24:=zN m.op 24;have e25:=zN m.op 25;have e26:=zN m.op 26;have e27:=zN m.op 27;have e28:=zN m.op 28;have e29:(m.op==29)=true:=by simp;omega
  have e31:=zN m.op 31;have c5:5≤m.op:=kT
  have c18:18≤m.op:=kT
  have d17:¬ m.op≤17:=kT
  have d22:¬ m.op≤22:=kT
  have p1:¬ m.op<1:=kT
  have p2:¬ 31<m.op:=kT
  clear g;clear n0 n1 n2 n3 n4 n5 n6 n7;exact qA
 have n8:=g;clear g;by_cases g:m.op=31
 ·have e:makes7 m=[]:=by unfold makes7;rw[if_neg kT,if_neg kT,if_pos kT]
  rw[e];clear e;have e1:=zN m.op 1;have e2:=zN m.op 2;have e23:=zN m.op 23;have e24:=zN m.op 24;have e25:=zN m.op 25;have e26:=zN m.op 26;have e27:=zN m.op 27;have e28:=zN m.op 28;have e29:=zN m.op 29;have e31:(m.op==31)=true:=by simp;omega
  have c5:5≤m.op:=kT
  have c18:18≤m.op:=kT
  have d17:¬ m.op≤17:=kT
  have d22:¬ m.op≤22:=kT
  have p1:¬ m.op<1:=kT
  have p2:¬ 31<m.op:=kT
  clear g;clear n0 n1 n2 n3 n4 n5 n6 n7 n8;exact q7
 have n9:=g;clear g;by_cases g:5≤m.op∧m.op≤17
 ·have e:makes7 m=[m.d]:=by unfold makes7;rw[if_neg kT,if_neg kT,if_neg kT]
  rw[e];clear e;have e1:=zN m.op 1;have e2:=zN m.op 2;have e23:=zN m.op 23;have e24:=zN m.op 24;have e25:=zN m.op 25;have e26:=zN m.op 26;have e27:=zN m.op 27;have e28:=zN m.op 28;have e29:=zN m.op 29;have e31:=zN m.op 31;have c5:5≤m.op:=kT
  have c18:¬ 18≤m.op:=kT
  have d17:m.op≤17:=kT
  have d22:m.op≤22:=kT
  have p1:¬ m.op<1:=kT
  have p2:¬ 31<m.op:=kT
  clear g;clear n0 n1 n2 n3 n4 n5 n6 n7 n8 n9;exact qA
 have n10:=g;clear g;by_cases g:18≤m.op∧m.op≤22
 ·have e:makes7 m=[m.d]:=by unfold makes7;rw[if_neg kT,if_neg kT,if_neg kT]
  rw[e];clear e;have e1:=zN m.op 1;have e2:=zN m.op 2;have e23:=zN m.op 23;have e24:=zN m.op 24;have e25:=zN m.op 25;have e26:=zN m.op 26;have e27:=zN m.op 27;have e28:=zN m.op 28;have e29:=zN m.op 29;have e31:=zN m.op 31;have c5:5≤m.op:=kT
  have c18:18≤m.op:=kT
  have d17:¬ m.op≤17:=kT
  have d22:m.op≤22:=kT
  have p1:¬ m.op<1:=kT
  have p2:¬ 31<m.op:=kT
  clear g;clear n0 n1 n2 n3 n4 n5 n6 n7 n8 n9 n10;exact qA
 have n11:=g;clear g;by_cases g:m.op<1
 ·have e:makes7 m=[]:=by unfold makes7;rw[if_neg kT,if_neg kT,if_pos kT]
  rw[e];clear e;have e1:=zN m.op 1;have e2:=zN m.op 2;have e23:=zN m.op 23;have e24:=zN m.op 24;have e25:=zN m.op 25;have e26:=zN m.op 26;have e27:=zN m.op 27;have e28:=zN m.op 28;have e29:=zN m.op 29;have e31:=zN m.op 31;have c5:¬ 5≤m.op:=kT
  have c18:¬ 18≤m.op:=kT
  have d17:m.op≤17:=kT
  have d22:m.op≤22:=kT
  have p1:m.op<1:=kT
  have p2:¬ 31<m.op:=kT
  clear g;clear n0 n1 n2 n3 n4 n5 n6 n7 n8 n9 n10 n11;exact q7
 have n12:=g;clear g;by_cases g:31<m.op
 ·have e:makes7 m=[]:=by unfold makes7;rw[if_neg kT,if_neg kT,if_pos kT]
  rw[e];clear e;have e1:=zN m.op 1;have e2:=zN m.op 2;have e23:=zN m.op 23;have e24:=zN m.op 24;have e25:=zN m.op 25;have e26:=zN m.op 26;have e27:=zN m.op 27;have e28:=zN m.op 28;have e29:=zN m.op 29;have e31:=zN m.op 31;have c5:5≤m.op:=kT
  have c18:18≤m.op:=kT
  have d17:¬ m.op≤17:=kT
  have d22:¬ m.op≤22:=kT
  have p1:¬ m.op<1:=kT
  have p2:31<m.op:=kT
  clear g;clear n0 n1 n2 n3 n4 n5 n6 n7 n8 n9 n10 n11 n12;exact q7
 have n13:=g;clear g;by_cases g:m.op=30
 ·have e:makes7 m=[m.d]:=by unfold makes7;rw[if_neg kT,if_neg kT,if_neg kT]
  rw[e];clear e;have e1:=zN m.op 1;have e2:=zN m.op 2;have e23:=zN m.op 23;have e24:=zN m.op 24;have e25:=zN m.op 25;have e26:=zN m.op 26;have e27:=zN m.op 27;have e28:=zN m.op 28;have e29:=zN m.op 29;have e31:=zN m.op 31;have c5:5≤m.op:=kT
  have c18:18≤m.op:=kT
  have d17:¬ m.op≤17:=kT
  have d22:¬ m.op≤22:=kT
  have p1:¬ m.op<1:=kT
  have p2:¬ 31<m.op:=kT
  clear g;clear n0 n1 n2 n3 n4 n5 n6 n7 n8 n9 n10 n11 n12 n13;exact qA
 have n14:=g;clear g;have g:m.op=3∨m.op=4:=kT
 have e:makes7 m=[m.d]:=by unfold makes7;rw[if_neg kT,if_neg kT,if_neg kT]
 rw[e];clear e;have e1:=zN m.op 1;have e2:=zN m.op 2;have e23:=zN m.op 23;have e24:=zN m.op 24;have e25:=zN m.op 25;have e26:=zN m.op 26;have e27:=zN m.op 27;have e28:=zN m.op 28;have e29:=zN m.op 29;have e31:=zN m.op 31;have c5:¬ 5≤m.op:=kT
 have c18:¬ 18≤m.op:=kT
 have d17:m.op≤17:=kT
 have d22:m.op≤22:=kT
 have p1:¬ m.op<1:=kT
 have p2:¬ 31<m.op:=kT
 clear g;clear n0 n1 n2 n3 n4 n5 n6 n7 n8 n9 n10 n11 n12 n13 n14;exact qA
def plw (x:PlV):Value:=.agg #[.int .i64 x.m.op,.int .i64 x.m.d,.int .i64 x.m.e,.int .i64 x.m.a,.int .i64 x.m.b,.int .i64 x.m.c,.int .i32 x.m.imm,x.av,.int .i64 x.src]
def Yr (op reg n:Int):PlV:=⟨Vj op reg n,.slice none 0 0,-1⟩
theorem Q8 (op reg n:Int) (w:World) (ho:op=30∨op=31) (hr:0≤reg∧reg<4) (hn:0≤n∧n<100000) :
  Calls Tryz.prog 10 #[.int .i64 op,.int .i64 reg,.int .i64 n] w (fun e w'=>e=.returned (plw (Yr op reg n))∧Since w w'):=by
 rcases ho with rfl|rfl
 ·go_enter Tryz.func10,Tryz.ntmps10
  go_wp2_with fail
  try simp only[Exit.inBlock,Exit.then]
  refine bodyPost_ret (results_cell_row rfl _ _ w.heap.size 38 #[.int .i64 30,.int .i64 reg,.int .i64 0,.int .i64 0,.int .i64 0,.int .i64 0,.int .i32 n,.slice none 0 0,.int .i64 (-1)] (0,0) _ rfl ((HeapIs.new _ _ _).keep ((Since.refl _).alloc _)) Tryz.underlying38 rfl kO) rfl ?_;exact⟨rfl,((Since.refl w).alloc _).alloc _⟩
 ·go_enter Tryz.func10,Tryz.ntmps10
  go_wp2_with fail
  try simp only[Exit.inBlock,Exit.then]
  refine bodyPost_ret (results_cell_row rfl _ _ w.heap.size 38 #[.int .i64 31,.int .i64 0,.int .i64 0,.int .i64 reg,.int .i64 0,.int .i64 0,.int .i32 n,.slice none 0 0,.int .i64 (-1)] (0,0) _ rfl ((HeapIs.new _ _ _).keep ((Since.refl _).alloc _)) Tryz.underlying38 rfl kO) rfl ?_;exact⟨rfl,((Since.refl w).alloc _).alloc _⟩
end Go.Proofs.YtimpddecdodddaaGreat
