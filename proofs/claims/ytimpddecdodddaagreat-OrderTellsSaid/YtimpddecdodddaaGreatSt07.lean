import Derived.Test.YtimpddecdodddaaGreatSt03
namespace Go.Proofs.YtimpddecdodddaaGreat
open Go.Proofs.Tryz Go.RowKit Go.Lib
set_option linter.unusedVariables false
set_option maxHeartbeats 4000000
set_option maxRecDepth 100000
theorem qU {P:Prop} (h:P:=by
 go_enter func102,ntmps102
 go_wp2
 go_ret
 exact Zk ((Since.refl _).alloc _) _ _ (by simp) rfl (by simp[maxLen]) rfl):P:=h
theorem qV {P:Prop} (h:P:=by
 go_enter func101,ntmps101
 go_wp2
 go_ret
 exact Zk ((Since.refl _).alloc _) _ _ (by simp) rfl (by simp[maxLen]) rfl):P:=h
theorem qW {P:Prop} (h:P:=by
 go_enter func92,ntmps92
 go_wp2
 go_ret
 exact Zk ((Since.refl _).alloc _) _ _ (by simp) rfl (by simp[maxLen]) rfl):P:=h
theorem qX {P:Prop} (h:P:=by
 go_enter func91,ntmps91
 go_wp2
 go_ret
 exact Zk ((Since.refl _).alloc _) _ _ (by simp) rfl (by simp[maxLen]) rfl):P:=h
theorem yV {P:Prop} (h:P:=by
 rw[e1];clear e1;go_enter func117,ntmps117
 go_wp2
 go_ret
 exact⟨rfl,rfl⟩):P:=h
theorem yY {P:Prop} (h:P:=by
 go_enter func102,ntmps102
 go_wp2
 go_ret
 exact ZP ((Since.refl _).alloc _)):P:=h
theorem yZ {P:Prop} (h:P:=by
 go_enter func101,ntmps101
 go_wp2
 go_ret
 exact ZP ((Since.refl _).alloc _)):P:=h
theorem y7 {P:Prop} (h:P:=by
 rw[e1];clear e1;go_enter func118,ntmps118
 go_wp2
 go_ret
 exact⟨rfl,rfl⟩):P:=h
theorem jZ {P:Prop} (h:P:=by
 go_wp2
 exact⟨_,rfl,XO rfl hs.size _ _,(Since.refl _).alloc _⟩):P:=h
theorem zs4 {P Q:Prop} (q:Q) (f:Q→P:=by
 intro zq hk;simp only[putAll,Act.put,Wq,XB,Zj,Is,List.setIfInBounds_toArray,List.set_cons_zero,List.set_cons_succ,Nat.reduceAdd]at hk ⊢;try simp only[hk]
 first | (revert hk;exact zq) | exact (show True→_ from zq) trivial):P:=f q
theorem Vx (m:Mach) (av:Value) (w:World) (h:Zd w av m.args) (hl:m.args.length≤1000) :
  Calls prog 101 #[mv m av] w (Yo w (takes7 m)):=by
 have H:=hid h;clear h;unfold mv;by_cases g:m.op=1
 ·have e:takes7 m=[m.a]:=by unfold takes7;rw[if_pos zaK]
  rw[e];clear e;have e1:(m.op==1)=true:=by simp;omega
  have e2:=zN m.op 2;have e23:=zN m.op 23;have e24:=zN m.op 24;have e25:=zN m.op 25;have e26:=zN m.op 26;have e27:=zN m.op 27;have e28:=zN m.op 28;have e29:=zN m.op 29;have e31:=zN m.op 31;have c5:¬ 5≤m.op:=zaK
  have c18:¬ 18≤m.op:=zaK
  have d17:m.op≤17:=zaK
  have d22:m.op≤22:=zaK
  have p1:¬ m.op<1:=zaK
  have p2:¬ 31<m.op:=zaK
  clear g;exact qV
 have n0:=g;clear g;by_cases g:m.op=2
 ·have e:takes7 m=[m.a,m.b]:=by unfold takes7;rw[if_neg zaK,if_pos zaK]
  rw[e];clear e;have e1:=zN m.op 1;have e2:(m.op==2)=true:=by simp;omega
  have e23:=zN m.op 23;have e24:=zN m.op 24;have e25:=zN m.op 25;have e26:=zN m.op 26;have e27:=zN m.op 27;have e28:=zN m.op 28;have e29:=zN m.op 29;have e31:=zN m.op 31;have c5:¬ 5≤m.op:=zaK
  have c18:¬ 18≤m.op:=zaK
  have d17:m.op≤17:=zaK
  have d22:m.op≤22:=zaK
  have p1:¬ m.op<1:=zaK
  have p2:¬ 31<m.op:=zaK
  clear g;clear n0;exact qV
 have n1:=g;clear g;by_cases g:m.op=23
 ·have e:takes7 m=[m.a,m.b,m.c]:=by unfold takes7;rw[if_neg zaK,if_neg zaK,if_pos zaK]
  rw[e];clear e;have e1:=zN m.op 1;have e2:=zN m.op 2;have e23:(m.op==23)=true:=by simp;omega
  have e24:=zN m.op 24;have e25:=zN m.op 25;have e26:=zN m.op 26;have e27:=zN m.op 27;have e28:=zN m.op 28;have e29:=zN m.op 29;have e31:=zN m.op 31;have c5:5≤m.op:=zaK
  have c18:18≤m.op:=zaK
  have d17:¬ m.op≤17:=zaK
  have d22:¬ m.op≤22:=zaK
  have p1:¬ m.op<1:=zaK
  have p2:¬ 31<m.op:=zaK
  clear g;clear n0 n1;exact qV
 have n2:=g;clear g;by_cases g:m.op=24
 ·have e:takes7 m=[m.a]:=by unfold takes7;rw[if_pos zaK]
  rw[e];clear e;have e1:=zN m.op 1;have e2:=zN m.op 2;have e23:=zN m.op 23;have e24:(m.op==24)=true:=by simp;omega
  have e25:=zN m.op 25;have e26:=zN m.op 26;have e27:=zN m.op 27;have e28:=zN m.op 28;have e29:=zN m.op 29;have e31:=zN m.op 31;have c5:5≤m.op:=zaK
  have c18:18≤m.op:=zaK
  have d17:¬ m.op≤17:=zaK
  have d22:¬ m.op≤22:=zaK
  have p1:¬ m.op<1:=zaK
  have p2:¬ 31<m.op:=zaK
  clear g;clear n0 n1 n2;exact qV
 have n3:=g;clear g;by_cases g:m.op=25
 ·have e:takes7 m=[m.a,m.b]:=by unfold takes7;rw[if_neg zaK,if_pos zaK]
  rw[e];clear e;have e1:=zN m.op 1;have e2:=zN m.op 2;have e23:=zN m.op 23;have e24:=zN m.op 24;have e25:(m.op==25)=true:=by simp;omega
  have e26:=zN m.op 26;have e27:=zN m.op 27;have e28:=zN m.op 28;have e29:=zN m.op 29;have e31:=zN m.op 31;have c5:5≤m.op:=zaK
  have c18:18≤m.op:=zaK
  have d17:¬ m.op≤17:=zaK
  have d22:¬ m.op≤22:=zaK
  have p1:¬ m.op<1:=zaK
  have p2:¬ 31<m.op:=zaK
  clear g;clear n0 n1 n2 n3;exact qV
 have n4:=g;clear g;by_cases g:m.op=26
 ·have e:takes7 m=[m.a,m.b]:=by unfold takes7;rw[if_neg zaK,if_pos zaK]
  rw[e];clear e;have e1:=zN m.op 1;have e2:=zN m.op 2;have e23:=zN m.op 23;have e24:=zN m.op 24;have e25:=zN m.op 25;have e26:(m.op==26)=true:=by simp;omega
  have e27:=zN m.op 27;have e28:=zN m.op 28;have e29:=zN m.op 29;have e31:=zN m.op 31;have c5:5≤m.op:=zaK
  have c18:18≤m.op:=zaK
  have d17:¬ m.op≤17:=zaK
  have d22:¬ m.op≤22:=zaK
  have p1:¬ m.op<1:=zaK
  have p2:¬ 31<m.op:=zaK
  clear g;clear n0 n1 n2 n3 n4;exact qV
 have n5:=g;clear g;by_cases g:m.op=27
 ·have e:takes7 m=[m.a,m.b,m.c]:=by unfold takes7;rw[if_neg zaK,if_neg zaK,if_pos zaK]
  rw[e];clear e;have e1:=zN m.op 1;have e2:=zN m.op 2;have e23:=zN m.op 23;have e24:=zN m.op 24;have e25:=zN m.op 25;have e26:=zN m.op 26;have e27:(m.op==27)=true:=by simp;omega
  have e28:=zN m.op 28;have e29:=zN m.op 29;have e31:=zN m.op 31;have c5:5≤m.op:=zaK
  have c18:18≤m.op:=zaK
  have d17:¬ m.op≤17:=zaK
  have d22:¬ m.op≤22:=zaK
  have p1:¬ m.op<1:=zaK
  have p2:¬ 31<m.op:=zaK
  clear g;clear n0 n1 n2 n3 n4 n5;exact qV
 have n6:=g;clear g;by_cases g:m.op=28
 ·have e:takes7 m=m.args:=by unfold takes7;rw[if_neg zaK,if_neg zaK,if_neg zaK,if_pos zaK]
  rw[e];clear e;have e1:=zN m.op 1;have e2:=zN m.op 2;have e23:=zN m.op 23;have e24:=zN m.op 24;have e25:=zN m.op 25;have e26:=zN m.op 26;have e27:=zN m.op 27;have e28:(m.op==28)=true:=by simp;omega
  have e29:=zN m.op 29;have e31:=zN m.op 31;have c5:5≤m.op:=zaK
  have c18:18≤m.op:=zaK
  have d17:¬ m.op≤17:=zaK
  have d22:¬ m.op≤22:=zaK
  have p1:¬ m.op<1:=zaK
  have p2:¬ 31<m.op:=zaK
  clear g;clear n0 n1 n2 n3 n4 n5 n6;go_enter func101,ntmps101
  go_wp2_with (at_builtin;refine ZQ (w0:=w) .i64 rfl _ _ 22 rfl 3 (.int .i64 0) 8 underlying22 Tryz.info3 rfl zaJ _ _ [] m.args rfl rfl (XO zaL (Since.alloc (Since.refl _) _).size _ _) (H.out.keep (((Since.refl _).alloc _).alloc _)) zaE (((Since.refl _).alloc _).alloc _) ?_;intro v' w' ha hs)
  go_ret
  exact⟨_,rfl,ZB ha,hs⟩
 have n7:=g;clear g;by_cases g:m.op=29
 ·have e:takes7 m=[m.a,m.b]:=by unfold takes7;rw[if_neg zaK,if_pos zaK]
  rw[e];clear e;have e1:=zN m.op 1;have e2:=zN m.op 2;have e23:=zN m.op 23;have e24:=zN m.op 24;have e25:=zN m.op 25;have e26:=zN m.op 26;have e27:=zN m.op 27;have e28:=zN m.op 28;have e29:(m.op==29)=true:=by simp;omega
  have e31:=zN m.op 31;have c5:5≤m.op:=zaK
  have c18:18≤m.op:=zaK
  have d17:¬ m.op≤17:=zaK
  have d22:¬ m.op≤22:=zaK
  have p1:¬ m.op<1:=zaK
  have p2:¬ 31<m.op:=zaK
  clear g;clear n0 n1 n2 n3 n4 n5 n6 n7;exact qV
 have n8:=g;clear g;by_cases g:m.op=31
 ·have e:takes7 m=[m.a]:=by unfold takes7;rw[if_pos zaK]
  rw[e];clear e;have e1:=zN m.op 1;have e2:=zN m.op 2;have e23:=zN m.op 23;have e24:=zN m.op 24;have e25:=zN m.op 25;have e26:=zN m.op 26;have e27:=zN m.op 27;have e28:=zN m.op 28;have e29:=zN m.op 29;have e31:(m.op==31)=true:=by simp;omega
  have c5:5≤m.op:=zaK
  have c18:18≤m.op:=zaK
  have d17:¬ m.op≤17:=zaK
  have d22:¬ m.op≤22:=zaK
  have p1:¬ m.op<1:=zaK
  have p2:¬ 31<m.op:=zaK
  clear g;clear n0 n1 n2 n3 n4 n5 n6 n7 n8;exact qV
 have n9:=g;clear g;by_cases g:5≤m.op∧m.op≤17
 ·have e:takes7 m=[m.a,m.b]:=by unfold takes7;rw[if_neg zaK,if_pos zaK]
  rw[e];clear e;have e1:=zN m.op 1;have e2:=zN m.op 2;have e23:=zN m.op 23;have e24:=zN m.op 24;have e25:=zN m.op 25;have e26:=zN m.op 26;have e27:=zN m.op 27;have e28:=zN m.op 28;have e29:=zN m.op 29;have e31:=zN m.op 31;have c5:5≤m.op:=zaK
  have c18:¬ 18≤m.op:=zaK
  have d17:m.op≤17:=zaK
  have d22:m.op≤22:=zaK
  have p1:¬ m.op<1:=zaK
  have p2:¬ 31<m.op:=zaK
  clear g;clear n0 n1 n2 n3 n4 n5 n6 n7 n8 n9;exact qV
 have n10:=g;clear g;by_cases g:18≤m.op∧m.op≤22
 ·have e:takes7 m=[m.a]:=by unfold takes7;rw[if_pos zaK]
  rw[e];clear e;have e1:=zN m.op 1;have e2:=zN m.op 2;have e23:=zN m.op 23;have e24:=zN m.op 24;have e25:=zN m.op 25;have e26:=zN m.op 26;have e27:=zN m.op 27;have e28:=zN m.op 28;have e29:=zN m.op 29;have e31:=zN m.op 31;have c5:5≤m.op:=zaK
  have c18:18≤m.op:=zaK
  have d17:¬ m.op≤17:=zaK
  have d22:m.op≤22:=zaK
  have p1:¬ m.op<1:=zaK
  have p2:¬ 31<m.op:=zaK
  clear g;clear n0 n1 n2 n3 n4 n5 n6 n7 n8 n9 n10;exact qV
 have n11:=g;clear g;by_cases g:m.op<1
 ·have e:takes7 m=[]:=by unfold takes7;rw[if_neg zaK,if_neg zaK,if_neg zaK,if_neg zaK]
  rw[e];clear e;have e1:=zN m.op 1;have e2:=zN m.op 2;have e23:=zN m.op 23;have e24:=zN m.op 24;have e25:=zN m.op 25;have e26:=zN m.op 26;have e27:=zN m.op 27;have e28:=zN m.op 28;have e29:=zN m.op 29;have e31:=zN m.op 31;have c5:¬ 5≤m.op:=zaK
  have c18:¬ 18≤m.op:=zaK
  have d17:m.op≤17:=zaK
  have d22:m.op≤22:=zaK
  have p1:m.op<1:=zaK
  have p2:¬ 31<m.op:=zaK
  clear g;clear n0 n1 n2 n3 n4 n5 n6 n7 n8 n9 n10 n11;exact yZ
 have n12:=g;clear g;by_cases g:31<m.op
 ·have e:takes7 m=[]:=by unfold takes7;rw[if_neg zaK,if_neg zaK,if_neg zaK,if_neg zaK]
  rw[e];clear e;have e1:=zN m.op 1;have e2:=zN m.op 2;have e23:=zN m.op 23;have e24:=zN m.op 24;have e25:=zN m.op 25;have e26:=zN m.op 26;have e27:=zN m.op 27;have e28:=zN m.op 28;have e29:=zN m.op 29;have e31:=zN m.op 31;have c5:5≤m.op:=zaK
  have c18:18≤m.op:=zaK
  have d17:¬ m.op≤17:=zaK
  have d22:¬ m.op≤22:=zaK
  have p1:¬ m.op<1:=zaK
  have p2:31<m.op:=zaK
  clear g;clear n0 n1 n2 n3 n4 n5 n6 n7 n8 n9 n10 n11 n12;exact yZ
 have n13:=g;clear g;by_cases g:m.op=30
 ·have e:takes7 m=[]:=by unfold takes7;rw[if_neg zaK,if_neg zaK,if_neg zaK,if_neg zaK]
  rw[e];clear e;have e1:=zN m.op 1;have e2:=zN m.op 2;have e23:=zN m.op 23;have e24:=zN m.op 24;have e25:=zN m.op 25;have e26:=zN m.op 26;have e27:=zN m.op 27;have e28:=zN m.op 28;have e29:=zN m.op 29;have e31:=zN m.op 31;have c5:5≤m.op:=zaK
  have c18:18≤m.op:=zaK
  have d17:¬ m.op≤17:=zaK
  have d22:¬ m.op≤22:=zaK
  have p1:¬ m.op<1:=zaK
  have p2:¬ 31<m.op:=zaK
  clear g;clear n0 n1 n2 n3 n4 n5 n6 n7 n8 n9 n10 n11 n12 n13;exact yZ
 have n14:=g;clear g;have g:m.op=3∨m.op=4:=zaK
 have e:takes7 m=[]:=by unfold takes7;rw[if_neg zaK,if_neg zaK,if_neg zaK,if_neg zaK]
 rw[e];clear e;have e1:=zN m.op 1;have e2:=zN m.op 2;have e23:=zN m.op 23;have e24:=zN m.op 24;have e25:=zN m.op 25;have e26:=zN m.op 26;have e27:=zN m.op 27;have e28:=zN m.op 28;have e29:=zN m.op 29;have e31:=zN m.op 31;have c5:¬ 5≤m.op:=zaK
 have c18:¬ 18≤m.op:=zaK
 have d17:m.op≤17:=zaK
 have d22:m.op≤22:=zaK
 have p1:¬ m.op<1:=zaK
 have p2:¬ 31<m.op:=zaK
 clear g;clear n0 n1 n2 n3 n4 n5 n6 n7 n8 n9 n10 n11 n12 n13 n14;exact yZ
theorem Vy (m:Mach) (av:Value) (w:World) (h:Zd w av m.args) (hl:m.args.length≤1000) :
  Calls prog 102 #[mv m av] w (Yo w (makes7 m)):=by
 have H:=hid h;clear h;unfold mv;by_cases g:m.op=1
 ·have e:makes7 m=[m.d]:=by unfold makes7;rw[if_neg zaK,if_neg zaK,if_neg zaK]
  rw[e];clear e;have e1:(m.op==1)=true:=by simp;omega
  have e2:=zN m.op 2;have e23:=zN m.op 23;have e24:=zN m.op 24;have e25:=zN m.op 25;have e26:=zN m.op 26;have e27:=zN m.op 27;have e28:=zN m.op 28;have e29:=zN m.op 29;have e31:=zN m.op 31;have c5:¬ 5≤m.op:=zaK
  have c18:¬ 18≤m.op:=zaK
  have d17:m.op≤17:=zaK
  have d22:m.op≤22:=zaK
  have p1:¬ m.op<1:=zaK
  have p2:¬ 31<m.op:=zaK
  clear g;exact qU
 have n0:=g;clear g;by_cases g:m.op=2
 ·have e:makes7 m=[m.a,m.b]:=by unfold makes7;rw[if_pos zaK]
  rw[e];clear e;have e1:=zN m.op 1;have e2:(m.op==2)=true:=by simp;omega
  have e23:=zN m.op 23;have e24:=zN m.op 24;have e25:=zN m.op 25;have e26:=zN m.op 26;have e27:=zN m.op 27;have e28:=zN m.op 28;have e29:=zN m.op 29;have e31:=zN m.op 31;have c5:¬ 5≤m.op:=zaK
  have c18:¬ 18≤m.op:=zaK
  have d17:m.op≤17:=zaK
  have d22:m.op≤22:=zaK
  have p1:¬ m.op<1:=zaK
  have p2:¬ 31<m.op:=zaK
  clear g;clear n0;exact qU
 have n1:=g;clear g;by_cases g:m.op=23
 ·have e:makes7 m=[m.d]:=by unfold makes7;rw[if_neg zaK,if_neg zaK,if_neg zaK]
  rw[e];clear e;have e1:=zN m.op 1;have e2:=zN m.op 2;have e23:(m.op==23)=true:=by simp;omega
  have e24:=zN m.op 24;have e25:=zN m.op 25;have e26:=zN m.op 26;have e27:=zN m.op 27;have e28:=zN m.op 28;have e29:=zN m.op 29;have e31:=zN m.op 31;have c5:5≤m.op:=zaK
  have c18:18≤m.op:=zaK
  have d17:¬ m.op≤17:=zaK
  have d22:¬ m.op≤22:=zaK
  have p1:¬ m.op<1:=zaK
  have p2:¬ 31<m.op:=zaK
  clear g;clear n0 n1;exact qU
 have n2:=g;clear g;by_cases g:m.op=24
 ·have e:makes7 m=[m.d]:=by unfold makes7;rw[if_neg zaK,if_neg zaK,if_neg zaK]
  rw[e];clear e;have e1:=zN m.op 1;have e2:=zN m.op 2;have e23:=zN m.op 23;have e24:(m.op==24)=true:=by simp;omega
  have e25:=zN m.op 25;have e26:=zN m.op 26;have e27:=zN m.op 27;have e28:=zN m.op 28;have e29:=zN m.op 29;have e31:=zN m.op 31;have c5:5≤m.op:=zaK
  have c18:18≤m.op:=zaK
  have d17:¬ m.op≤17:=zaK
  have d22:¬ m.op≤22:=zaK
  have p1:¬ m.op<1:=zaK
  have p2:¬ 31<m.op:=zaK
  clear g;clear n0 n1 n2;exact qU
 have n3:=g;clear g;by_cases g:m.op=25
 ·have e:makes7 m=[m.d]:=by unfold makes7;rw[if_neg zaK,if_neg zaK,if_neg zaK]
  rw[e];clear e;have e1:=zN m.op 1;have e2:=zN m.op 2;have e23:=zN m.op 23;have e24:=zN m.op 24;have e25:(m.op==25)=true:=by simp;omega
  have e26:=zN m.op 26;have e27:=zN m.op 27;have e28:=zN m.op 28;have e29:=zN m.op 29;have e31:=zN m.op 31;have c5:5≤m.op:=zaK
  have c18:18≤m.op:=zaK
  have d17:¬ m.op≤17:=zaK
  have d22:¬ m.op≤22:=zaK
  have p1:¬ m.op<1:=zaK
  have p2:¬ 31<m.op:=zaK
  clear g;clear n0 n1 n2 n3;exact qU
 have n4:=g;clear g;by_cases g:m.op=26
 ·have e:makes7 m=[]:=by unfold makes7;rw[if_neg zaK,if_neg zaK,if_pos zaK]
  rw[e];clear e;have e1:=zN m.op 1;have e2:=zN m.op 2;have e23:=zN m.op 23;have e24:=zN m.op 24;have e25:=zN m.op 25;have e26:(m.op==26)=true:=by simp;omega
  have e27:=zN m.op 27;have e28:=zN m.op 28;have e29:=zN m.op 29;have e31:=zN m.op 31;have c5:5≤m.op:=zaK
  have c18:18≤m.op:=zaK
  have d17:¬ m.op≤17:=zaK
  have d22:¬ m.op≤22:=zaK
  have p1:¬ m.op<1:=zaK
  have p2:¬ 31<m.op:=zaK
  clear g;clear n0 n1 n2 n3 n4;exact yY
 have n5:=g;clear g;by_cases g:m.op=27
 ·have e:makes7 m=[]:=by unfold makes7;rw[if_neg zaK,if_neg zaK,if_pos zaK]
  rw[e];clear e;have e1:=zN m.op 1;have e2:=zN m.op 2;have e23:=zN m.op 23;have e24:=zN m.op 24;have e25:=zN m.op 25;have e26:=zN m.op 26;have e27:(m.op==27)=true:=by simp;omega
  have e28:=zN m.op 28;have e29:=zN m.op 29;have e31:=zN m.op 31;have c5:5≤m.op:=zaK
  have c18:18≤m.op:=zaK
  have d17:¬ m.op≤17:=zaK
  have d22:¬ m.op≤22:=zaK
  have p1:¬ m.op<1:=zaK
  have p2:¬ 31<m.op:=zaK
  clear g;clear n0 n1 n2 n3 n4 n5;exact yY
 have n6:=g;clear g;by_cases g:m.op=28
 ·have e:makes7 m=[m.d]:=by unfold makes7;rw[if_neg zaK,if_neg zaK,if_neg zaK]
  rw[e];clear e;have e1:=zN m.op 1;have e2:=zN m.op 2;have e23:=zN m.op 23;have e24:=zN m.op 24;have e25:=zN m.op 25;have e26:=zN m.op 26;have e27:=zN m.op 27;have e28:(m.op==28)=true:=by simp;omega
  have e29:=zN m.op 29;have e31:=zN m.op 31;have c5:5≤m.op:=zaK
  have c18:18≤m.op:=zaK
  have d17:¬ m.op≤17:=zaK
  have d22:¬ m.op≤22:=zaK
  have p1:¬ m.op<1:=zaK
  have p2:¬ 31<m.op:=zaK
  clear g;clear n0 n1 n2 n3 n4 n5 n6;exact qU
 have n7:=g;clear g;by_cases g:m.op=29
 ·have e:makes7 m=[m.d,m.e]:=by unfold makes7;rw[if_neg zaK,if_pos zaK]
  rw[e];clear e;have e1:=zN m.op 1;have e2:=zN m.op 2;have e23:=zN m.op 23;have e24:=zN m.op 24;have e25:=zN m.op 25;have e26:=zN m.op 26;have e27:=zN m.op 27;have e28:=zN m.op 28;have e29:(m.op==29)=true:=by simp;omega
  have e31:=zN m.op 31;have c5:5≤m.op:=zaK
  have c18:18≤m.op:=zaK
  have d17:¬ m.op≤17:=zaK
  have d22:¬ m.op≤22:=zaK
  have p1:¬ m.op<1:=zaK
  have p2:¬ 31<m.op:=zaK
  clear g;clear n0 n1 n2 n3 n4 n5 n6 n7;exact qU
 have n8:=g;clear g;by_cases g:m.op=31
 ·have e:makes7 m=[]:=by unfold makes7;rw[if_neg zaK,if_neg zaK,if_pos zaK]
  rw[e];clear e;have e1:=zN m.op 1;have e2:=zN m.op 2;have e23:=zN m.op 23;have e24:=zN m.op 24;have e25:=zN m.op 25;have e26:=zN m.op 26;have e27:=zN m.op 27;have e28:=zN m.op 28;have e29:=zN m.op 29;have e31:(m.op==31)=true:=by simp;omega
  have c5:5≤m.op:=zaK
  have c18:18≤m.op:=zaK
  have d17:¬ m.op≤17:=zaK
  have d22:¬ m.op≤22:=zaK
  have p1:¬ m.op<1:=zaK
  have p2:¬ 31<m.op:=zaK
  clear g;clear n0 n1 n2 n3 n4 n5 n6 n7 n8;exact yY
 have n9:=g;clear g;by_cases g:5≤m.op∧m.op≤17
 ·have e:makes7 m=[m.d]:=by unfold makes7;rw[if_neg zaK,if_neg zaK,if_neg zaK]
  rw[e];clear e;have e1:=zN m.op 1;have e2:=zN m.op 2;have e23:=zN m.op 23;have e24:=zN m.op 24;have e25:=zN m.op 25;have e26:=zN m.op 26;have e27:=zN m.op 27;have e28:=zN m.op 28;have e29:=zN m.op 29;have e31:=zN m.op 31;have c5:5≤m.op:=zaK
  have c18:¬ 18≤m.op:=zaK
  have d17:m.op≤17:=zaK
  have d22:m.op≤22:=zaK
  have p1:¬ m.op<1:=zaK
  have p2:¬ 31<m.op:=zaK
  clear g;clear n0 n1 n2 n3 n4 n5 n6 n7 n8 n9;exact qU
 have n10:=g;clear g;by_cases g:18≤m.op∧m.op≤22
 ·have e:makes7 m=[m.d]:=by unfold makes7;rw[if_neg zaK,if_neg zaK,if_neg zaK]
  rw[e];clear e;have e1:=zN m.op 1;have e2:=zN m.op 2;have e23:=zN m.op 23;have e24:=zN m.op 24;have e25:=zN m.op 25;have e26:=zN m.op 26;have e27:=zN m.op 27;have e28:=zN m.op 28;have e29:=zN m.op 29;have e31:=zN m.op 31;have c5:5≤m.op:=zaK
  have c18:18≤m.op:=zaK
  have d17:¬ m.op≤17:=zaK
  have d22:m.op≤22:=zaK
  have p1:¬ m.op<1:=zaK
  have p2:¬ 31<m.op:=zaK
  clear g;clear n0 n1 n2 n3 n4 n5 n6 n7 n8 n9 n10;exact qU
 have n11:=g;clear g;by_cases g:m.op<1
 ·have e:makes7 m=[]:=by unfold makes7;rw[if_neg zaK,if_neg zaK,if_pos zaK]
  rw[e];clear e;have e1:=zN m.op 1;have e2:=zN m.op 2;have e23:=zN m.op 23;have e24:=zN m.op 24;have e25:=zN m.op 25;have e26:=zN m.op 26;have e27:=zN m.op 27;have e28:=zN m.op 28;have e29:=zN m.op 29;have e31:=zN m.op 31;have c5:¬ 5≤m.op:=zaK
  have c18:¬ 18≤m.op:=zaK
  have d17:m.op≤17:=zaK
  have d22:m.op≤22:=zaK
  have p1:m.op<1:=zaK
  have p2:¬ 31<m.op:=zaK
  clear g;clear n0 n1 n2 n3 n4 n5 n6 n7 n8 n9 n10 n11;exact yY
 have n12:=g;clear g;by_cases g:31<m.op
 ·have e:makes7 m=[]:=by unfold makes7;rw[if_neg zaK,if_neg zaK,if_pos zaK]
  rw[e];clear e;have e1:=zN m.op 1;have e2:=zN m.op 2;have e23:=zN m.op 23;have e24:=zN m.op 24;have e25:=zN m.op 25;have e26:=zN m.op 26;have e27:=zN m.op 27;have e28:=zN m.op 28;have e29:=zN m.op 29;have e31:=zN m.op 31;have c5:5≤m.op:=zaK
  have c18:18≤m.op:=zaK
  have d17:¬ m.op≤17:=zaK
  have d22:¬ m.op≤22:=zaK
  have p1:¬ m.op<1:=zaK
  have p2:31<m.op:=zaK
  clear g;clear n0 n1 n2 n3 n4 n5 n6 n7 n8 n9 n10 n11 n12;exact yY
 have n13:=g;clear g;by_cases g:m.op=30
 ·have e:makes7 m=[m.d]:=by unfold makes7;rw[if_neg zaK,if_neg zaK,if_neg zaK]
  rw[e];clear e;have e1:=zN m.op 1;have e2:=zN m.op 2;have e23:=zN m.op 23;have e24:=zN m.op 24;have e25:=zN m.op 25;have e26:=zN m.op 26;have e27:=zN m.op 27;have e28:=zN m.op 28;have e29:=zN m.op 29;have e31:=zN m.op 31;have c5:5≤m.op:=zaK
  have c18:18≤m.op:=zaK
  have d17:¬ m.op≤17:=zaK
  have d22:¬ m.op≤22:=zaK
  have p1:¬ m.op<1:=zaK
  have p2:¬ 31<m.op:=zaK
  clear g;clear n0 n1 n2 n3 n4 n5 n6 n7 n8 n9 n10 n11 n12 n13;exact qU
 have n14:=g;clear g;have g:m.op=3∨m.op=4:=zaK
 have e:makes7 m=[m.d]:=by unfold makes7;rw[if_neg zaK,if_neg zaK,if_neg zaK]
 rw[e];clear e;have e1:=zN m.op 1;have e2:=zN m.op 2;have e23:=zN m.op 23;have e24:=zN m.op 24;have e25:=zN m.op 25;have e26:=zN m.op 26;have e27:=zN m.op 27;have e28:=zN m.op 28;have e29:=zN m.op 29;have e31:=zN m.op 31;have c5:¬ 5≤m.op:=zaK
 have c18:¬ 18≤m.op:=zaK
 have d17:m.op≤17:=zaK
 have d22:m.op≤22:=zaK
 have p1:¬ m.op<1:=zaK
 have p2:¬ 31<m.op:=zaK
 clear g;clear n0 n1 n2 n3 n4 n5 n6 n7 n8 n9 n10 n11 n12 n13 n14;exact qU
theorem VR (m:Mach) (av:Value) (w:World) (h:Zd w av m.args) (hf:Xt m) :
  Calls prog 91 #[mv m av] w (Yo w (takes m)):=by
 obtain⟨h1,h2,hl⟩:=hf;have H:=hid h;clear h;have HC:Hid (∀ w,Zd w av m.args→Calls prog 101 #[mv m av] w (Yo w (takes7 m))):=fun w h=>Vx m av w h hl
 unfold mv at HC ⊢;by_cases g1:m.op=2
 ·have e:takes m=[m.a,m.b]:=by unfold takes;rw[if_pos g1]
  rw[e];clear e;have g1':(m.op==2)=true:=by simpa using g1
  clear g1;exact qX
 ·have g1':(m.op==2)=false:=by simpa using g1
  by_cases g2:m.op=30
  ·have e:takes m=[16+m.imm]:=by unfold takes;rw[if_neg g1,if_pos g2]
   rw[e];clear e;have g2':(m.op==30)=true:=by simpa using g2
   clear g1 g2;exact qX
  ·have e:takes m=takes7 m:=by unfold takes;rw[if_neg g1,if_neg g2]
   rw[e];clear e;have g2':(m.op==30)=false:=by simpa using g2
   clear g1 g2;go_enter func91,ntmps91
   go_wp2_with (go_at_call 101;refine (HC.out _ (H.out.keep ((Since.refl _).alloc _))).mono ?_;rintro e w1 ⟨v,rfl,hv,hs⟩)
   exact j2
theorem VS (m:Mach) (av:Value) (w:World) (h:Zd w av m.args) (hf:Xt m) :
  Calls prog 92 #[mv m av] w (Yo w (makes m)):=by
 obtain⟨h1,h2,hl⟩:=hf;have H:=hid h;clear h;have HC:Hid (∀ w,Zd w av m.args→Calls prog 102 #[mv m av] w (Yo w (makes7 m))):=fun w h=>Vy m av w h hl
 unfold mv at HC ⊢;by_cases g1:m.op=2
 ·have e:makes m=[m.a,m.b]:=by unfold makes;rw[if_pos g1]
  rw[e];clear e;have g1':(m.op==2)=true:=by simpa using g1
  clear g1;exact qW
 ·have g1':(m.op==2)=false:=by simpa using g1
  by_cases g2:m.op=31
  ·have e:makes m=[16+m.imm]:=by unfold makes;rw[if_neg g1,if_pos g2]
   rw[e];clear e;have g2':(m.op==31)=true:=by simpa using g2
   clear g1 g2;exact qW
  ·have e:makes m=makes7 m:=by unfold makes;rw[if_neg g1,if_neg g2]
   rw[e];clear e;have g2':(m.op==31)=false:=by simpa using g2
   clear g1 g2;go_enter func92,ntmps92
   go_wp2_with (go_at_call 102;refine (HC.out _ (H.out.keep ((Since.refl _).alloc _))).mono ?_;rintro e w1 ⟨v,rfl,hv,hs⟩)
   exact j2
theorem ZaI (v bv:Value) (l lb:List Int) (w:World) (h:Zy .i64 w v l) (hb:Zy .i64 w bv lb) :
  Calls prog 116 #[v,bv] w (ZD (meetB l lb) w):=by
 have hm:=h.len;have hu:=hb.len;obtain⟨a,cap,rfl⟩:=Zc h;obtain⟨a2,cap2,rfl⟩:=Zc hb;obtain⟨_,hc⟩:=Zr h;obtain⟨_,hr⟩:=Zr hb;have HC:=hid hc;have hA:=hid hr;clear hc hr h hb;unfold maxLen at hm hu;unfold meetB;go_enter func116,ntmps116
 go_wp2
 go_loopw [5] (fun i wr=>∃ k:Nat,k≤l.length∧i=.int .i64 k∧(∀ j y,j<k→l[j]? = some y→(lb.any fun z=>y==z)=false)∧Since w wr) (fun i _=>l.length-(intOf i).toNat)
 case atStart=>exact⟨0,Nat.zero_le _,rfl,fun _ _ h=>by omega,.refl _⟩
 case round =>
  obtain⟨k,hk,rfl,hq,hp⟩:=hrel;have hs:=hid hq;clear hq;by_cases hn:k<l.length
  ·obtain⟨x,hx⟩:∃ y,l[k]? = some y:=⟨_,List.getElem?_eq_getElem hn⟩
   obtain⟨b,off,rfl,hw,hi⟩:=HC.out (by intro e;rw[e]at hn;simp at hn);have hv:=hi k x hx;have HX:=hid hx;clear hi hx;go_wp2
   obtain⟨wo,rfl⟩:∃ wo:World,wo=wr:=⟨_,rfl⟩
   go_loopw [6] (fun i wr=>∃ k2:Nat,k2≤lb.length∧i=.int .i64 k2∧(∀ j y,j<k2→lb[j]? = some y→(x==y)=false)∧Since w wr) (fun i _=>lb.length-(intOf i).toNat)
   case atStart=>exact⟨0,Nat.zero_le _,rfl,fun _ _ h=>by omega,hp⟩
   case round =>
    obtain⟨k2,hC,rfl,hl,hd⟩:=hrel;have ho:=hid hl;clear hl;by_cases hg:k2<lb.length
    ·obtain⟨y,hy⟩:∃ y,lb[k2]? = some y:=⟨_,List.getElem?_eq_getElem hg⟩
     obtain⟨b2,off2,rfl,ht,hf⟩:=hA.out zab;have hD:wr.cell? ⟨b2,off2+k2,none⟩=some (.int .i64 y):=by rw[hd.cell ht];exact hf k2 y hy
     have hB:wr.cell? ⟨b,off+k,none⟩=some (.int .i64 x):=by rw[hd.cell hw];exact hv
     have HY:=hid hy;clear hf hy;have q1:(k:Int)<(l.length:Int):=zaK
     have q2:(k2:Int)<(lb.length:Int):=zaK
     by_cases he:(x==y)=true
     ·have ha:(lb.any fun z=>x==z)=true:=K8 (p:=fun z=>x==z) HY.out he;have hh:=K8 (p:=fun x=>lb.any fun z=>x==z) HX.out ha;have HF:=hid hh;clear ha hh;go_wp2
      go_quiet (fail)
      go_wp2
      go_ret
      exact⟨by rw[HF.out];rfl,hd.drewN _⟩
     ·have he:(x==y)=false:=by simpa using he
      go_wp2
      go_quiet (fail)
      go_wp2
      go_roundw
      case rel =>
       refine⟨k2+1,zaK,by go_num,fun j z hj hz=>?_,hd.drewN _⟩;by_cases e:j=k2
       ·subst e;have:=HY.out.symm.trans hz;cases this;exact he
       ·exact ho.out j z zaK hz
      case measure=>simp[intOf];omega
    ·obtain rfl:k2=lb.length:=zaK
     have ha:=WY (p:=fun z=>x==z) rfl ho.out;have HF:=hid ha;clear ha;go_wp2
     go_roundw
     case rel =>
      refine⟨k+1,zaK,by go_num,fun j z hj hz=>?_,hd⟩;by_cases e:j=k
      ·subst e;have:=HX.out.symm.trans hz;cases this;exact HF.out
      ·exact hs.out j z zaK hz
     case measure=>simp[intOf];omega
  ·obtain rfl:k=l.length:=zaK
   have ha:=WY (p:=fun x=>lb.any fun z=>x==z) rfl hs.out;have HF:=hid ha;clear ha;go_wp2
   go_ret
   exact⟨by rw[HF.out];rfl,hp⟩
theorem Zca (op:Int) (w:World):Calls prog 117 #[.int .i64 op] w (Tells (strictB op) w):=by
 by_cases g24:op=24
 ·subst g24;have e1:strictB 24=true:=rfl;exact yV
 by_cases g25:op=25
 ·subst g25;have e1:strictB 25=true:=rfl;exact yV
 by_cases g28:op=28
 ·subst g28;have e1:strictB 28=true:=rfl;exact yV
 by_cases g26:op=26
 ·subst g26;have e1:strictB 26=true:=rfl;exact yV
 by_cases g27:op=27
 ·subst g27;have e1:strictB 27=true:=rfl;exact yV
 by_cases g17:op=17
 ·subst g17;have e1:strictB 17=true:=rfl;exact yV
 have e1:strictB op=false:=by simp[strictB,g24,g25,g28,g26,g27,g17]
 have n24:(op==24)=false:=by simpa using g24
 have n25:(op==25)=false:=by simpa using g25
 have n28:(op==28)=false:=by simpa using g28
 have n26:(op==26)=false:=by simpa using g26
 have n27:(op==27)=false:=by simpa using g27
 have n17:(op==17)=false:=by simpa using g17
 rw[e1];clear e1 g24 g25 g28 g26 g27 g17;go_enter func117,ntmps117
 go_wp2
 go_ret
 exact⟨rfl,rfl⟩
theorem Zb4 (op:Int) (w:World):Calls prog 118 #[.int .i64 op] w (Tells (loadB op) w):=by
 by_cases g24:op=24
 ·subst g24;have e1:loadB 24=true:=rfl;exact y7
 by_cases g25:op=25
 ·subst g25;have e1:loadB 25=true:=rfl;exact y7
 have e1:loadB op=false:=by simp[loadB,g24,g25]
 have n24:(op==24)=false:=by simpa using g24
 have n25:(op==25)=false:=by simpa using g25
 rw[e1];clear e1 g24 g25;go_enter func118,ntmps118
 go_wp2
 go_ret
 exact⟨rfl,rfl⟩
end Go.Proofs.YtimpddecdodddaaGreat
