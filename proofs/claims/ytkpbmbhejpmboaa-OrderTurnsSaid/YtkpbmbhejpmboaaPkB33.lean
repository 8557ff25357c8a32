/- What the references' Takes and Makes are. Printed by a program: one walk for each kind of instruction. The reference's meet, effect, load. -/
import Derived.Test.YtkpbmbhejpmboaaPkB01
import Derived.Test.YtkpbmbhejpmboaaPkB05
namespace Go.Proofs.Ytkpbmbhejpmboaa
open Go.RowKit
set_option linter.unusedVariables false
set_option maxHeartbeats 4000000 in
set_option maxRecDepth 100000 in
theorem rtakes7_any (m:Mach) (av:Value) (w:World) (h:Ints w av m.args) (hl:m.args.length≤1000) :
  Calls Try.prog 98 #[mv m av] w (Gives w (takes7 m)):=by
 have H:=Lib.hid h;clear h
 unfold mv
 by_cases g:m.op=1
 ·have e:takes7 m=[m.a]:=by unfold takes7;rw[if_pos (by omega)]
  rw[e];clear e
  have e1:(m.op==1)=true:=by simp;omega
  have e2:(m.op==2)=false:=by simp;omega
  have e23:(m.op==23)=false:=by simp;omega
  have e24:(m.op==24)=false:=by simp;omega
  have e25:(m.op==25)=false:=by simp;omega
  have e26:(m.op==26)=false:=by simp;omega
  have e27:(m.op==27)=false:=by simp;omega
  have e28:(m.op==28)=false:=by simp;omega
  have e29:(m.op==29)=false:=by simp;omega
  have e31:(m.op==31)=false:=by simp;omega
  have c5:¬ 5≤m.op:=by omega
  have c18:¬ 18≤m.op:=by omega
  have d17:m.op≤17:=by omega
  have d22:m.op≤22:=by omega
  have p1:¬ m.op<1:=by omega
  have p2:¬ 31<m.op:=by omega
  clear g
  go_enter Try.func98,Try.ntmps98
  go_wp2
  go_ret
  exact gives_last ((Since.refl _).alloc _) _ _ (by simp) rfl (by simp[maxLen]) rfl
 have n0:=g;clear g
 by_cases g:m.op=2
 ·have e:takes7 m=[m.a,m.b]:=by unfold takes7;rw[if_neg (by omega),if_pos (by omega)]
  rw[e];clear e
  have e1:(m.op==1)=false:=by simp;omega
  have e2:(m.op==2)=true:=by simp;omega
  have e23:(m.op==23)=false:=by simp;omega
  have e24:(m.op==24)=false:=by simp;omega
  have e25:(m.op==25)=false:=by simp;omega
  have e26:(m.op==26)=false:=by simp;omega
  have e27:(m.op==27)=false:=by simp;omega
  have e28:(m.op==28)=false:=by simp;omega
  have e29:(m.op==29)=false:=by simp;omega
  have e31:(m.op==31)=false:=by simp;omega
  have c5:¬ 5≤m.op:=by omega
  have c18:¬ 18≤m.op:=by omega
  have d17:m.op≤17:=by omega
  have d22:m.op≤22:=by omega
  have p1:¬ m.op<1:=by omega
  have p2:¬ 31<m.op:=by omega
  clear g
  clear n0
  go_enter Try.func98,Try.ntmps98
  go_wp2
  go_ret
  exact gives_last ((Since.refl _).alloc _) _ _ (by simp) rfl (by simp[maxLen]) rfl
 have n1:=g;clear g
 by_cases g:m.op=23
 ·have e:takes7 m=[m.a,m.b,m.c]:=by unfold takes7;rw[if_neg (by omega),if_neg (by omega),if_pos (by omega)]
  rw[e];clear e
  have e1:(m.op==1)=false:=by simp;omega
  have e2:(m.op==2)=false:=by simp;omega
  have e23:(m.op==23)=true:=by simp;omega
  have e24:(m.op==24)=false:=by simp;omega
  have e25:(m.op==25)=false:=by simp;omega
  have e26:(m.op==26)=false:=by simp;omega
  have e27:(m.op==27)=false:=by simp;omega
  have e28:(m.op==28)=false:=by simp;omega
  have e29:(m.op==29)=false:=by simp;omega
  have e31:(m.op==31)=false:=by simp;omega
  have c5:5≤m.op:=by omega
  have c18:18≤m.op:=by omega
  have d17:¬ m.op≤17:=by omega
  have d22:¬ m.op≤22:=by omega
  have p1:¬ m.op<1:=by omega
  have p2:¬ 31<m.op:=by omega
  clear g
  clear n0 n1
  go_enter Try.func98,Try.ntmps98
  go_wp2
  go_ret
  exact gives_last ((Since.refl _).alloc _) _ _ (by simp) rfl (by simp[maxLen]) rfl
 have n2:=g;clear g
 by_cases g:m.op=24
 ·have e:takes7 m=[m.a]:=by unfold takes7;rw[if_pos (by omega)]
  rw[e];clear e
  have e1:(m.op==1)=false:=by simp;omega
  have e2:(m.op==2)=false:=by simp;omega
  have e23:(m.op==23)=false:=by simp;omega
  have e24:(m.op==24)=true:=by simp;omega
  have e25:(m.op==25)=false:=by simp;omega
  have e26:(m.op==26)=false:=by simp;omega
  have e27:(m.op==27)=false:=by simp;omega
  have e28:(m.op==28)=false:=by simp;omega
  have e29:(m.op==29)=false:=by simp;omega
  have e31:(m.op==31)=false:=by simp;omega
  have c5:5≤m.op:=by omega
  have c18:18≤m.op:=by omega
  have d17:¬ m.op≤17:=by omega
  have d22:¬ m.op≤22:=by omega
  have p1:¬ m.op<1:=by omega
  have p2:¬ 31<m.op:=by omega
  clear g
  clear n0 n1 n2
  go_enter Try.func98,Try.ntmps98
  go_wp2
  go_ret
  exact gives_last ((Since.refl _).alloc _) _ _ (by simp) rfl (by simp[maxLen]) rfl
 have n3:=g;clear g
 by_cases g:m.op=25
 ·have e:takes7 m=[m.a,m.b]:=by unfold takes7;rw[if_neg (by omega),if_pos (by omega)]
  rw[e];clear e
  have e1:(m.op==1)=false:=by simp;omega
  have e2:(m.op==2)=false:=by simp;omega
  have e23:(m.op==23)=false:=by simp;omega
  have e24:(m.op==24)=false:=by simp;omega
  have e25:(m.op==25)=true:=by simp;omega
  have e26:(m.op==26)=false:=by simp;omega
  have e27:(m.op==27)=false:=by simp;omega
  have e28:(m.op==28)=false:=by simp;omega
  have e29:(m.op==29)=false:=by simp;omega
  have e31:(m.op==31)=false:=by simp;omega
  have c5:5≤m.op:=by omega
  have c18:18≤m.op:=by omega
  have d17:¬ m.op≤17:=by omega
  have d22:¬ m.op≤22:=by omega
  have p1:¬ m.op<1:=by omega
  have p2:¬ 31<m.op:=by omega
  clear g
  clear n0 n1 n2 n3
  go_enter Try.func98,Try.ntmps98
  go_wp2
  go_ret
  exact gives_last ((Since.refl _).alloc _) _ _ (by simp) rfl (by simp[maxLen]) rfl
 have n4:=g;clear g
 by_cases g:m.op=26
 ·have e:takes7 m=[m.a,m.b]:=by unfold takes7;rw[if_neg (by omega),if_pos (by omega)]
  rw[e];clear e
  have e1:(m.op==1)=false:=by simp;omega
  have e2:(m.op==2)=false:=by simp;omega
  have e23:(m.op==23)=false:=by simp;omega
  have e24:(m.op==24)=false:=by simp;omega
  have e25:(m.op==25)=false:=by simp;omega
  have e26:(m.op==26)=true:=by simp;omega
  have e27:(m.op==27)=false:=by simp;omega
  have e28:(m.op==28)=false:=by simp;omega
  have e29:(m.op==29)=false:=by simp;omega
  have e31:(m.op==31)=false:=by simp;omega
  have c5:5≤m.op:=by omega
  have c18:18≤m.op:=by omega
  have d17:¬ m.op≤17:=by omega
  have d22:¬ m.op≤22:=by omega
  have p1:¬ m.op<1:=by omega
  have p2:¬ 31<m.op:=by omega
  clear g
  clear n0 n1 n2 n3 n4
  go_enter Try.func98,Try.ntmps98
  go_wp2
  go_ret
  exact gives_last ((Since.refl _).alloc _) _ _ (by simp) rfl (by simp[maxLen]) rfl
 have n5:=g;clear g
 by_cases g:m.op=27
 ·have e:takes7 m=[m.a,m.b,m.c]:=by unfold takes7;rw[if_neg (by omega),if_neg (by omega),if_pos (by omega)]
  rw[e];clear e
  have e1:(m.op==1)=false:=by simp;omega
  have e2:(m.op==2)=false:=by simp;omega
  have e23:(m.op==23)=false:=by simp;omega
  have e24:(m.op==24)=false:=by simp;omega
  have e25:(m.op==25)=false:=by simp;omega
  have e26:(m.op==26)=false:=by simp;omega
  have e27:(m.op==27)=true:=by simp;omega
  have e28:(m.op==28)=false:=by simp;omega
  have e29:(m.op==29)=false:=by simp;omega
  have e31:(m.op==31)=false:=by simp;omega
  have c5:5≤m.op:=by omega
  have c18:18≤m.op:=by omega
  have d17:¬ m.op≤17:=by omega
  have d22:¬ m.op≤22:=by omega
  have p1:¬ m.op<1:=by omega
  have p2:¬ 31<m.op:=by omega
  clear g
  clear n0 n1 n2 n3 n4 n5
  go_enter Try.func98,Try.ntmps98
  go_wp2
  go_ret
  exact gives_last ((Since.refl _).alloc _) _ _ (by simp) rfl (by simp[maxLen]) rfl
 have n6:=g;clear g
 by_cases g:m.op=28
 ·have e:takes7 m=m.args:=by unfold takes7;rw[if_neg (by omega),if_neg (by omega),if_neg (by omega),if_pos (by omega)]
  rw[e];clear e
  have e1:(m.op==1)=false:=by simp;omega
  have e2:(m.op==2)=false:=by simp;omega
  have e23:(m.op==23)=false:=by simp;omega
  have e24:(m.op==24)=false:=by simp;omega
  have e25:(m.op==25)=false:=by simp;omega
  have e26:(m.op==26)=false:=by simp;omega
  have e27:(m.op==27)=false:=by simp;omega
  have e28:(m.op==28)=true:=by simp;omega
  have e29:(m.op==29)=false:=by simp;omega
  have e31:(m.op==31)=false:=by simp;omega
  have c5:5≤m.op:=by omega
  have c18:18≤m.op:=by omega
  have d17:¬ m.op≤17:=by omega
  have d22:¬ m.op≤22:=by omega
  have p1:¬ m.op<1:=by omega
  have p2:¬ 31<m.op:=by omega
  clear g
  clear n0 n1 n2 n3 n4 n5 n6
  go_enter Try.func98,Try.ntmps98
  go_wp2_with (at_builtin;refine wpList_append_nums (w0:=w) .i64 rfl _ _ 25 rfl 3 (.int .i64 0) 8 Try.underlying25 Try.info3 rfl (by decide) _ _ [] m.args rfl rfl (own_empty (by simp) (Since.alloc (Since.refl _) _).size _ _) (H.out.keep (((Since.refl _).alloc _).alloc _)) (by simp;omega) (((Since.refl _).alloc _).alloc _) ?_;intro v' w' hown hs)
  go_ret
  exact⟨_,rfl,nums_of_own hown,hs⟩
 have n7:=g;clear g
 by_cases g:m.op=29
 ·have e:takes7 m=[m.a,m.b]:=by unfold takes7;rw[if_neg (by omega),if_pos (by omega)]
  rw[e];clear e
  have e1:(m.op==1)=false:=by simp;omega
  have e2:(m.op==2)=false:=by simp;omega
  have e23:(m.op==23)=false:=by simp;omega
  have e24:(m.op==24)=false:=by simp;omega
  have e25:(m.op==25)=false:=by simp;omega
  have e26:(m.op==26)=false:=by simp;omega
  have e27:(m.op==27)=false:=by simp;omega
  have e28:(m.op==28)=false:=by simp;omega
  have e29:(m.op==29)=true:=by simp;omega
  have e31:(m.op==31)=false:=by simp;omega
  have c5:5≤m.op:=by omega
  have c18:18≤m.op:=by omega
  have d17:¬ m.op≤17:=by omega
  have d22:¬ m.op≤22:=by omega
  have p1:¬ m.op<1:=by omega
  have p2:¬ 31<m.op:=by omega
  clear g
  clear n0 n1 n2 n3 n4 n5 n6 n7
  go_enter Try.func98,Try.ntmps98
  go_wp2
  go_ret
  exact gives_last ((Since.refl _).alloc _) _ _ (by simp) rfl (by simp[maxLen]) rfl
 have n8:=g;clear g
 by_cases g:m.op=31
 ·have e:takes7 m=[m.a]:=by unfold takes7;rw[if_pos (by omega)]
  rw[e];clear e
  have e1:(m.op==1)=false:=by simp;omega
  have e2:(m.op==2)=false:=by simp;omega
  have e23:(m.op==23)=false:=by simp;omega
  have e24:(m.op==24)=false:=by simp;omega
  have e25:(m.op==25)=false:=by simp;omega
  have e26:(m.op==26)=false:=by simp;omega
  have e27:(m.op==27)=false:=by simp;omega
  have e28:(m.op==28)=false:=by simp;omega
  have e29:(m.op==29)=false:=by simp;omega
  have e31:(m.op==31)=true:=by simp;omega
  have c5:5≤m.op:=by omega
  have c18:18≤m.op:=by omega
  have d17:¬ m.op≤17:=by omega
  have d22:¬ m.op≤22:=by omega
  have p1:¬ m.op<1:=by omega
  have p2:¬ 31<m.op:=by omega
  clear g
  clear n0 n1 n2 n3 n4 n5 n6 n7 n8
  go_enter Try.func98,Try.ntmps98
  go_wp2
  go_ret
  exact gives_last ((Since.refl _).alloc _) _ _ (by simp) rfl (by simp[maxLen]) rfl
 have n9:=g;clear g
 by_cases g:5≤m.op∧m.op≤17
 ·have e:takes7 m=[m.a,m.b]:=by unfold takes7;rw[if_neg (by omega),if_pos (by omega)]
  rw[e];clear e
  have e1:(m.op==1)=false:=by simp;omega
  have e2:(m.op==2)=false:=by simp;omega
  have e23:(m.op==23)=false:=by simp;omega
  have e24:(m.op==24)=false:=by simp;omega
  have e25:(m.op==25)=false:=by simp;omega
  have e26:(m.op==26)=false:=by simp;omega
  have e27:(m.op==27)=false:=by simp;omega
  have e28:(m.op==28)=false:=by simp;omega
  have e29:(m.op==29)=false:=by simp;omega
  have e31:(m.op==31)=false:=by simp;omega
  have c5:5≤m.op:=by omega
  have c18:¬ 18≤m.op:=by omega
  have d17:m.op≤17:=by omega
  have d22:m.op≤22:=by omega
  have p1:¬ m.op<1:=by omega
  have p2:¬ 31<m.op:=by omega
  clear g
  clear n0 n1 n2 n3 n4 n5 n6 n7 n8 n9
  go_enter Try.func98,Try.ntmps98
  go_wp2
  go_ret
  exact gives_last ((Since.refl _).alloc _) _ _ (by simp) rfl (by simp[maxLen]) rfl
 have n10:=g;clear g
 by_cases g:18≤m.op∧m.op≤22
 ·have e:takes7 m=[m.a]:=by unfold takes7;rw[if_pos (by omega)]
  rw[e];clear e
  have e1:(m.op==1)=false:=by simp;omega
  have e2:(m.op==2)=false:=by simp;omega
  have e23:(m.op==23)=false:=by simp;omega
  have e24:(m.op==24)=false:=by simp;omega
  have e25:(m.op==25)=false:=by simp;omega
  have e26:(m.op==26)=false:=by simp;omega
  have e27:(m.op==27)=false:=by simp;omega
  have e28:(m.op==28)=false:=by simp;omega
  have e29:(m.op==29)=false:=by simp;omega
  have e31:(m.op==31)=false:=by simp;omega
  have c5:5≤m.op:=by omega
  have c18:18≤m.op:=by omega
  have d17:¬ m.op≤17:=by omega
  have d22:m.op≤22:=by omega
  have p1:¬ m.op<1:=by omega
  have p2:¬ 31<m.op:=by omega
  clear g
  clear n0 n1 n2 n3 n4 n5 n6 n7 n8 n9 n10
  go_enter Try.func98,Try.ntmps98
  go_wp2
  go_ret
  exact gives_last ((Since.refl _).alloc _) _ _ (by simp) rfl (by simp[maxLen]) rfl
 have n11:=g;clear g
 by_cases g:m.op<1
 ·have e:takes7 m=[]:=by unfold takes7;rw[if_neg (by omega),if_neg (by omega),if_neg (by omega),if_neg (by omega)]
  rw[e];clear e
  have e1:(m.op==1)=false:=by simp;omega
  have e2:(m.op==2)=false:=by simp;omega
  have e23:(m.op==23)=false:=by simp;omega
  have e24:(m.op==24)=false:=by simp;omega
  have e25:(m.op==25)=false:=by simp;omega
  have e26:(m.op==26)=false:=by simp;omega
  have e27:(m.op==27)=false:=by simp;omega
  have e28:(m.op==28)=false:=by simp;omega
  have e29:(m.op==29)=false:=by simp;omega
  have e31:(m.op==31)=false:=by simp;omega
  have c5:¬ 5≤m.op:=by omega
  have c18:¬ 18≤m.op:=by omega
  have d17:m.op≤17:=by omega
  have d22:m.op≤22:=by omega
  have p1:m.op<1:=by omega
  have p2:¬ 31<m.op:=by omega
  clear g
  clear n0 n1 n2 n3 n4 n5 n6 n7 n8 n9 n10 n11
  go_enter Try.func98,Try.ntmps98
  go_wp2
  go_ret
  exact gives_none ((Since.refl _).alloc _)
 have n12:=g;clear g
 by_cases g:31<m.op
 ·have e:takes7 m=[]:=by unfold takes7;rw[if_neg (by omega),if_neg (by omega),if_neg (by omega),if_neg (by omega)]
  rw[e];clear e
  have e1:(m.op==1)=false:=by simp;omega
  have e2:(m.op==2)=false:=by simp;omega
  have e23:(m.op==23)=false:=by simp;omega
  have e24:(m.op==24)=false:=by simp;omega
  have e25:(m.op==25)=false:=by simp;omega
  have e26:(m.op==26)=false:=by simp;omega
  have e27:(m.op==27)=false:=by simp;omega
  have e28:(m.op==28)=false:=by simp;omega
  have e29:(m.op==29)=false:=by simp;omega
  have e31:(m.op==31)=false:=by simp;omega
  have c5:5≤m.op:=by omega
  have c18:18≤m.op:=by omega
  have d17:¬ m.op≤17:=by omega
  have d22:¬ m.op≤22:=by omega
  have p1:¬ m.op<1:=by omega
  have p2:31<m.op:=by omega
  clear g
  clear n0 n1 n2 n3 n4 n5 n6 n7 n8 n9 n10 n11 n12
  go_enter Try.func98,Try.ntmps98
  go_wp2
  go_ret
  exact gives_none ((Since.refl _).alloc _)
 have n13:=g;clear g
 by_cases g:m.op=30
 ·have e:takes7 m=[]:=by unfold takes7;rw[if_neg (by omega),if_neg (by omega),if_neg (by omega),if_neg (by omega)]
  rw[e];clear e
  have e1:(m.op==1)=false:=by simp;omega
  have e2:(m.op==2)=false:=by simp;omega
  have e23:(m.op==23)=false:=by simp;omega
  have e24:(m.op==24)=false:=by simp;omega
  have e25:(m.op==25)=false:=by simp;omega
  have e26:(m.op==26)=false:=by simp;omega
  have e27:(m.op==27)=false:=by simp;omega
  have e28:(m.op==28)=false:=by simp;omega
  have e29:(m.op==29)=false:=by simp;omega
  have e31:(m.op==31)=false:=by simp;omega
  have c5:5≤m.op:=by omega
  have c18:18≤m.op:=by omega
  have d17:¬ m.op≤17:=by omega
  have d22:¬ m.op≤22:=by omega
  have p1:¬ m.op<1:=by omega
  have p2:¬ 31<m.op:=by omega
  clear g
  clear n0 n1 n2 n3 n4 n5 n6 n7 n8 n9 n10 n11 n12 n13
  go_enter Try.func98,Try.ntmps98
  go_wp2
  go_ret
  exact gives_none ((Since.refl _).alloc _)
 have n14:=g;clear g
 have g:m.op=3∨m.op=4:=by omega
 have e:takes7 m=[]:=by unfold takes7;rw[if_neg (by omega),if_neg (by omega),if_neg (by omega),if_neg (by omega)]
 rw[e];clear e
 have e1:(m.op==1)=false:=by simp;omega
 have e2:(m.op==2)=false:=by simp;omega
 have e23:(m.op==23)=false:=by simp;omega
 have e24:(m.op==24)=false:=by simp;omega
 have e25:(m.op==25)=false:=by simp;omega
 have e26:(m.op==26)=false:=by simp;omega
 have e27:(m.op==27)=false:=by simp;omega
 have e28:(m.op==28)=false:=by simp;omega
 have e29:(m.op==29)=false:=by simp;omega
 have e31:(m.op==31)=false:=by simp;omega
 have c5:¬ 5≤m.op:=by omega
 have c18:¬ 18≤m.op:=by omega
 have d17:m.op≤17:=by omega
 have d22:m.op≤22:=by omega
 have p1:¬ m.op<1:=by omega
 have p2:¬ 31<m.op:=by omega
 clear g
 clear n0 n1 n2 n3 n4 n5 n6 n7 n8 n9 n10 n11 n12 n13 n14
 go_enter Try.func98,Try.ntmps98
 go_wp2
 go_ret
 exact gives_none ((Since.refl _).alloc _)
set_option maxHeartbeats 4000000 in
set_option maxRecDepth 100000 in
theorem rmakes7_any (m:Mach) (av:Value) (w:World) (h:Ints w av m.args) (hl:m.args.length≤1000) :
  Calls Try.prog 97 #[mv m av] w (Gives w (makes7 m)):=by
 have H:=Lib.hid h;clear h
 unfold mv
 by_cases g:m.op=1
 ·have e:makes7 m=[m.d]:=by unfold makes7;rw[if_neg (by omega),if_neg (by omega),if_neg (by omega)]
  rw[e];clear e
  have e1:(m.op==1)=true:=by simp;omega
  have e2:(m.op==2)=false:=by simp;omega
  have e23:(m.op==23)=false:=by simp;omega
  have e24:(m.op==24)=false:=by simp;omega
  have e25:(m.op==25)=false:=by simp;omega
  have e26:(m.op==26)=false:=by simp;omega
  have e27:(m.op==27)=false:=by simp;omega
  have e28:(m.op==28)=false:=by simp;omega
  have e29:(m.op==29)=false:=by simp;omega
  have e31:(m.op==31)=false:=by simp;omega
  have c5:¬ 5≤m.op:=by omega
  have c18:¬ 18≤m.op:=by omega
  have d17:m.op≤17:=by omega
  have d22:m.op≤22:=by omega
  have p1:¬ m.op<1:=by omega
  have p2:¬ 31<m.op:=by omega
  clear g
  go_enter Try.func97,Try.ntmps97
  go_wp2
  go_ret
  exact gives_last ((Since.refl _).alloc _) _ _ (by simp) rfl (by simp[maxLen]) rfl
 have n0:=g;clear g
 by_cases g:m.op=2
 ·have e:makes7 m=[m.a,m.b]:=by unfold makes7;rw[if_pos (by omega)]
  rw[e];clear e
  have e1:(m.op==1)=false:=by simp;omega
  have e2:(m.op==2)=true:=by simp;omega
  have e23:(m.op==23)=false:=by simp;omega
  have e24:(m.op==24)=false:=by simp;omega
  have e25:(m.op==25)=false:=by simp;omega
  have e26:(m.op==26)=false:=by simp;omega
  have e27:(m.op==27)=false:=by simp;omega
  have e28:(m.op==28)=false:=by simp;omega
  have e29:(m.op==29)=false:=by simp;omega
  have e31:(m.op==31)=false:=by simp;omega
  have c5:¬ 5≤m.op:=by omega
  have c18:¬ 18≤m.op:=by omega
  have d17:m.op≤17:=by omega
  have d22:m.op≤22:=by omega
  have p1:¬ m.op<1:=by omega
  have p2:¬ 31<m.op:=by omega
  clear g
  clear n0
  go_enter Try.func97,Try.ntmps97
  go_wp2
  go_ret
  exact gives_last ((Since.refl _).alloc _) _ _ (by simp) rfl (by simp[maxLen]) rfl
 have n1:=g;clear g
 by_cases g:m.op=23
 ·have e:makes7 m=[m.d]:=by unfold makes7;rw[if_neg (by omega),if_neg (by omega),if_neg (by omega)]
  rw[e];clear e
  have e1:(m.op==1)=false:=by simp;omega
  have e2:(m.op==2)=false:=by simp;omega
  have e23:(m.op==23)=true:=by simp;omega
  have e24:(m.op==24)=false:=by simp;omega
  have e25:(m.op==25)=false:=by simp;omega
  have e26:(m.op==26)=false:=by simp;omega
  have e27:(m.op==27)=false:=by simp;omega
  have e28:(m.op==28)=false:=by simp;omega
  have e29:(m.op==29)=false:=by simp;omega
  have e31:(m.op==31)=false:=by simp;omega
  have c5:5≤m.op:=by omega
  have c18:18≤m.op:=by omega
  have d17:¬ m.op≤17:=by omega
  have d22:¬ m.op≤22:=by omega
  have p1:¬ m.op<1:=by omega
  have p2:¬ 31<m.op:=by omega
  clear g
  clear n0 n1
  go_enter Try.func97,Try.ntmps97
  go_wp2
  go_ret
  exact gives_last ((Since.refl _).alloc _) _ _ (by simp) rfl (by simp[maxLen]) rfl
 have n2:=g;clear g
 by_cases g:m.op=24
 ·have e:makes7 m=[m.d]:=by unfold makes7;rw[if_neg (by omega),if_neg (by omega),if_neg (by omega)]
  rw[e];clear e
  have e1:(m.op==1)=false:=by simp;omega
  have e2:(m.op==2)=false:=by simp;omega
  have e23:(m.op==23)=false:=by simp;omega
  have e24:(m.op==24)=true:=by simp;omega
  have e25:(m.op==25)=false:=by simp;omega
  have e26:(m.op==26)=false:=by simp;omega
  have e27:(m.op==27)=false:=by simp;omega
  have e28:(m.op==28)=false:=by simp;omega
  have e29:(m.op==29)=false:=by simp;omega
  have e31:(m.op==31)=false:=by simp;omega
  have c5:5≤m.op:=by omega
  have c18:18≤m.op:=by omega
  have d17:¬ m.op≤17:=by omega
  have d22:¬ m.op≤22:=by omega
  have p1:¬ m.op<1:=by omega
  have p2:¬ 31<m.op:=by omega
  clear g
  clear n0 n1 n2
  go_enter Try.func97,Try.ntmps97
  go_wp2
  go_ret
  exact gives_last ((Since.refl _).alloc _) _ _ (by simp) rfl (by simp[maxLen]) rfl
 have n3:=g;clear g
 by_cases g:m.op=25
 ·have e:makes7 m=[m.d]:=by unfold makes7;rw[if_neg (by omega),if_neg (by omega),if_neg (by omega)]
  rw[e];clear e
  have e1:(m.op==1)=false:=by simp;omega
  have e2:(m.op==2)=false:=by simp;omega
  have e23:(m.op==23)=false:=by simp;omega
  have e24:(m.op==24)=false:=by simp;omega
  have e25:(m.op==25)=true:=by simp;omega
  have e26:(m.op==26)=false:=by simp;omega
  have e27:(m.op==27)=false:=by simp;omega
  have e28:(m.op==28)=false:=by simp;omega
  have e29:(m.op==29)=false:=by simp;omega
  have e31:(m.op==31)=false:=by simp;omega
  have c5:5≤m.op:=by omega
  have c18:18≤m.op:=by omega
  have d17:¬ m.op≤17:=by omega
  have d22:¬ m.op≤22:=by omega
  have p1:¬ m.op<1:=by omega
  have p2:¬ 31<m.op:=by omega
  clear g
  clear n0 n1 n2 n3
  go_enter Try.func97,Try.ntmps97
  go_wp2
  go_ret
  exact gives_last ((Since.refl _).alloc _) _ _ (by simp) rfl (by simp[maxLen]) rfl
 have n4:=g;clear g
 by_cases g:m.op=26
 ·have e:makes7 m=[]:=by unfold makes7;rw[if_neg (by omega),if_neg (by omega),if_pos (by omega)]
  rw[e];clear e
  have e1:(m.op==1)=false:=by simp;omega
  have e2:(m.op==2)=false:=by simp;omega
  have e23:(m.op==23)=false:=by simp;omega
  have e24:(m.op==24)=false:=by simp;omega
  have e25:(m.op==25)=false:=by simp;omega
  have e26:(m.op==26)=true:=by simp;omega
  have e27:(m.op==27)=false:=by simp;omega
  have e28:(m.op==28)=false:=by simp;omega
  have e29:(m.op==29)=false:=by simp;omega
  have e31:(m.op==31)=false:=by simp;omega
  have c5:5≤m.op:=by omega
  have c18:18≤m.op:=by omega
  have d17:¬ m.op≤17:=by omega
  have d22:¬ m.op≤22:=by omega
  have p1:¬ m.op<1:=by omega
  have p2:¬ 31<m.op:=by omega
  clear g
  clear n0 n1 n2 n3 n4
  go_enter Try.func97,Try.ntmps97
  go_wp2
  go_ret
  exact gives_none ((Since.refl _).alloc _)
 have n5:=g;clear g
 by_cases g:m.op=27
 ·have e:makes7 m=[]:=by unfold makes7;rw[if_neg (by omega),if_neg (by omega),if_pos (by omega)]
  rw[e];clear e
  have e1:(m.op==1)=false:=by simp;omega
  have e2:(m.op==2)=false:=by simp;omega
  have e23:(m.op==23)=false:=by simp;omega
  have e24:(m.op==24)=false:=by simp;omega
  have e25:(m.op==25)=false:=by simp;omega
  have e26:(m.op==26)=false:=by simp;omega
  have e27:(m.op==27)=true:=by simp;omega
  have e28:(m.op==28)=false:=by simp;omega
  have e29:(m.op==29)=false:=by simp;omega
  have e31:(m.op==31)=false:=by simp;omega
  have c5:5≤m.op:=by omega
  have c18:18≤m.op:=by omega
  have d17:¬ m.op≤17:=by omega
  have d22:¬ m.op≤22:=by omega
  have p1:¬ m.op<1:=by omega
  have p2:¬ 31<m.op:=by omega
  clear g
  clear n0 n1 n2 n3 n4 n5
  go_enter Try.func97,Try.ntmps97
  go_wp2
  go_ret
  exact gives_none ((Since.refl _).alloc _)
 have n6:=g;clear g
 by_cases g:m.op=28
 ·have e:makes7 m=[m.d]:=by unfold makes7;rw[if_neg (by omega),if_neg (by omega),if_neg (by omega)]
  rw[e];clear e
  have e1:(m.op==1)=false:=by simp;omega
  have e2:(m.op==2)=false:=by simp;omega
  have e23:(m.op==23)=false:=by simp;omega
  have e24:(m.op==24)=false:=by simp;omega
  have e25:(m.op==25)=false:=by simp;omega
  have e26:(m.op==26)=false:=by simp;omega
  have e27:(m.op==27)=false:=by simp;omega
  have e28:(m.op==28)=true:=by simp;omega
  have e29:(m.op==29)=false:=by simp;omega
  have e31:(m.op==31)=false:=by simp;omega
  have c5:5≤m.op:=by omega
  have c18:18≤m.op:=by omega
  have d17:¬ m.op≤17:=by omega
  have d22:¬ m.op≤22:=by omega
  have p1:¬ m.op<1:=by omega
  have p2:¬ 31<m.op:=by omega
  clear g
  clear n0 n1 n2 n3 n4 n5 n6
  go_enter Try.func97,Try.ntmps97
  go_wp2
  go_ret
  exact gives_last ((Since.refl _).alloc _) _ _ (by simp) rfl (by simp[maxLen]) rfl
 have n7:=g;clear g
 by_cases g:m.op=29
 ·have e:makes7 m=[m.d,m.e]:=by unfold makes7;rw[if_neg (by omega),if_pos (by omega)]
  rw[e];clear e
  have e1:(m.op==1)=false:=by simp;omega
  have e2:(m.op==2)=false:=by simp;omega
  have e23:(m.op==23)=false:=by simp;omega
  have e24:(m.op==24)=false:=by simp;omega
  have e25:(m.op==25)=false:=by simp;omega
  have e26:(m.op==26)=false:=by simp;omega
  have e27:(m.op==27)=false:=by simp;omega
  have e28:(m.op==28)=false:=by simp;omega
  have e29:(m.op==29)=true:=by simp;omega
  have e31:(m.op==31)=false:=by simp;omega
  have c5:5≤m.op:=by omega
  have c18:18≤m.op:=by omega
  have d17:¬ m.op≤17:=by omega
  have d22:¬ m.op≤22:=by omega
  have p1:¬ m.op<1:=by omega
  have p2:¬ 31<m.op:=by omega
  clear g
  clear n0 n1 n2 n3 n4 n5 n6 n7
  go_enter Try.func97,Try.ntmps97
  go_wp2
  go_ret
  exact gives_last ((Since.refl _).alloc _) _ _ (by simp) rfl (by simp[maxLen]) rfl
 have n8:=g;clear g
 by_cases g:m.op=31
 ·have e:makes7 m=[]:=by unfold makes7;rw[if_neg (by omega),if_neg (by omega),if_pos (by omega)]
  rw[e];clear e
  have e1:(m.op==1)=false:=by simp;omega
  have e2:(m.op==2)=false:=by simp;omega
  have e23:(m.op==23)=false:=by simp;omega
  have e24:(m.op==24)=false:=by simp;omega
  have e25:(m.op==25)=false:=by simp;omega
  have e26:(m.op==26)=false:=by simp;omega
  have e27:(m.op==27)=false:=by simp;omega
  have e28:(m.op==28)=false:=by simp;omega
  have e29:(m.op==29)=false:=by simp;omega
  have e31:(m.op==31)=true:=by simp;omega
  have c5:5≤m.op:=by omega
  have c18:18≤m.op:=by omega
  have d17:¬ m.op≤17:=by omega
  have d22:¬ m.op≤22:=by omega
  have p1:¬ m.op<1:=by omega
  have p2:¬ 31<m.op:=by omega
  clear g
  clear n0 n1 n2 n3 n4 n5 n6 n7 n8
  go_enter Try.func97,Try.ntmps97
  go_wp2
  go_ret
  exact gives_none ((Since.refl _).alloc _)
 have n9:=g;clear g
 by_cases g:5≤m.op∧m.op≤17
 ·have e:makes7 m=[m.d]:=by unfold makes7;rw[if_neg (by omega),if_neg (by omega),if_neg (by omega)]
  rw[e];clear e
  have e1:(m.op==1)=false:=by simp;omega
  have e2:(m.op==2)=false:=by simp;omega
  have e23:(m.op==23)=false:=by simp;omega
  have e24:(m.op==24)=false:=by simp;omega
  have e25:(m.op==25)=false:=by simp;omega
  have e26:(m.op==26)=false:=by simp;omega
  have e27:(m.op==27)=false:=by simp;omega
  have e28:(m.op==28)=false:=by simp;omega
  have e29:(m.op==29)=false:=by simp;omega
  have e31:(m.op==31)=false:=by simp;omega
  have c5:5≤m.op:=by omega
  have c18:¬ 18≤m.op:=by omega
  have d17:m.op≤17:=by omega
  have d22:m.op≤22:=by omega
  have p1:¬ m.op<1:=by omega
  have p2:¬ 31<m.op:=by omega
  clear g
  clear n0 n1 n2 n3 n4 n5 n6 n7 n8 n9
  go_enter Try.func97,Try.ntmps97
  go_wp2
  go_ret
  exact gives_last ((Since.refl _).alloc _) _ _ (by simp) rfl (by simp[maxLen]) rfl
 have n10:=g;clear g
 by_cases g:18≤m.op∧m.op≤22
 ·have e:makes7 m=[m.d]:=by unfold makes7;rw[if_neg (by omega),if_neg (by omega),if_neg (by omega)]
  rw[e];clear e
  have e1:(m.op==1)=false:=by simp;omega
  have e2:(m.op==2)=false:=by simp;omega
  have e23:(m.op==23)=false:=by simp;omega
  have e24:(m.op==24)=false:=by simp;omega
  have e25:(m.op==25)=false:=by simp;omega
  have e26:(m.op==26)=false:=by simp;omega
  have e27:(m.op==27)=false:=by simp;omega
  have e28:(m.op==28)=false:=by simp;omega
  have e29:(m.op==29)=false:=by simp;omega
  have e31:(m.op==31)=false:=by simp;omega
  have c5:5≤m.op:=by omega
  have c18:18≤m.op:=by omega
  have d17:¬ m.op≤17:=by omega
  have d22:m.op≤22:=by omega
  have p1:¬ m.op<1:=by omega
  have p2:¬ 31<m.op:=by omega
  clear g
  clear n0 n1 n2 n3 n4 n5 n6 n7 n8 n9 n10
  go_enter Try.func97,Try.ntmps97
  go_wp2
  go_ret
  exact gives_last ((Since.refl _).alloc _) _ _ (by simp) rfl (by simp[maxLen]) rfl
 have n11:=g;clear g
 by_cases g:m.op<1
 ·have e:makes7 m=[]:=by unfold makes7;rw[if_neg (by omega),if_neg (by omega),if_pos (by omega)]
  rw[e];clear e
  have e1:(m.op==1)=false:=by simp;omega
  have e2:(m.op==2)=false:=by simp;omega
  have e23:(m.op==23)=false:=by simp;omega
  have e24:(m.op==24)=false:=by simp;omega
  have e25:(m.op==25)=false:=by simp;omega
  have e26:(m.op==26)=false:=by simp;omega
  have e27:(m.op==27)=false:=by simp;omega
  have e28:(m.op==28)=false:=by simp;omega
  have e29:(m.op==29)=false:=by simp;omega
  have e31:(m.op==31)=false:=by simp;omega
  have c5:¬ 5≤m.op:=by omega
  have c18:¬ 18≤m.op:=by omega
  have d17:m.op≤17:=by omega
  have d22:m.op≤22:=by omega
  have p1:m.op<1:=by omega
  have p2:¬ 31<m.op:=by omega
  clear g
  clear n0 n1 n2 n3 n4 n5 n6 n7 n8 n9 n10 n11
  go_enter Try.func97,Try.ntmps97
  go_wp2
  go_ret
  exact gives_none ((Since.refl _).alloc _)
 have n12:=g;clear g
 by_cases g:31<m.op
 ·have e:makes7 m=[]:=by unfold makes7;rw[if_neg (by omega),if_neg (by omega),if_pos (by omega)]
  rw[e];clear e
  have e1:(m.op==1)=false:=by simp;omega
  have e2:(m.op==2)=false:=by simp;omega
  have e23:(m.op==23)=false:=by simp;omega
  have e24:(m.op==24)=false:=by simp;omega
  have e25:(m.op==25)=false:=by simp;omega
  have e26:(m.op==26)=false:=by simp;omega
  have e27:(m.op==27)=false:=by simp;omega
  have e28:(m.op==28)=false:=by simp;omega
  have e29:(m.op==29)=false:=by simp;omega
  have e31:(m.op==31)=false:=by simp;omega
  have c5:5≤m.op:=by omega
  have c18:18≤m.op:=by omega
  have d17:¬ m.op≤17:=by omega
  have d22:¬ m.op≤22:=by omega
  have p1:¬ m.op<1:=by omega
  have p2:31<m.op:=by omega
  clear g
  clear n0 n1 n2 n3 n4 n5 n6 n7 n8 n9 n10 n11 n12
  go_enter Try.func97,Try.ntmps97
  go_wp2
  go_ret
  exact gives_none ((Since.refl _).alloc _)
 have n13:=g;clear g
 by_cases g:m.op=30
 ·have e:makes7 m=[m.d]:=by unfold makes7;rw[if_neg (by omega),if_neg (by omega),if_neg (by omega)]
  rw[e];clear e
  have e1:(m.op==1)=false:=by simp;omega
  have e2:(m.op==2)=false:=by simp;omega
  have e23:(m.op==23)=false:=by simp;omega
  have e24:(m.op==24)=false:=by simp;omega
  have e25:(m.op==25)=false:=by simp;omega
  have e26:(m.op==26)=false:=by simp;omega
  have e27:(m.op==27)=false:=by simp;omega
  have e28:(m.op==28)=false:=by simp;omega
  have e29:(m.op==29)=false:=by simp;omega
  have e31:(m.op==31)=false:=by simp;omega
  have c5:5≤m.op:=by omega
  have c18:18≤m.op:=by omega
  have d17:¬ m.op≤17:=by omega
  have d22:¬ m.op≤22:=by omega
  have p1:¬ m.op<1:=by omega
  have p2:¬ 31<m.op:=by omega
  clear g
  clear n0 n1 n2 n3 n4 n5 n6 n7 n8 n9 n10 n11 n12 n13
  go_enter Try.func97,Try.ntmps97
  go_wp2
  go_ret
  exact gives_last ((Since.refl _).alloc _) _ _ (by simp) rfl (by simp[maxLen]) rfl
 have n14:=g;clear g
 have g:m.op=3∨m.op=4:=by omega
 have e:makes7 m=[m.d]:=by unfold makes7;rw[if_neg (by omega),if_neg (by omega),if_neg (by omega)]
 rw[e];clear e
 have e1:(m.op==1)=false:=by simp;omega
 have e2:(m.op==2)=false:=by simp;omega
 have e23:(m.op==23)=false:=by simp;omega
 have e24:(m.op==24)=false:=by simp;omega
 have e25:(m.op==25)=false:=by simp;omega
 have e26:(m.op==26)=false:=by simp;omega
 have e27:(m.op==27)=false:=by simp;omega
 have e28:(m.op==28)=false:=by simp;omega
 have e29:(m.op==29)=false:=by simp;omega
 have e31:(m.op==31)=false:=by simp;omega
 have c5:¬ 5≤m.op:=by omega
 have c18:¬ 18≤m.op:=by omega
 have d17:m.op≤17:=by omega
 have d22:m.op≤22:=by omega
 have p1:¬ m.op<1:=by omega
 have p2:¬ 31<m.op:=by omega
 clear g
 clear n0 n1 n2 n3 n4 n5 n6 n7 n8 n9 n10 n11 n12 n13 n14
 go_enter Try.func97,Try.ntmps97
 go_wp2
 go_ret
 exact gives_last ((Since.refl _).alloc _) _ _ (by simp) rfl (by simp[maxLen]) rfl
set_option maxHeartbeats 400000 in
set_option maxRecDepth 100000 in
theorem rtakes_any (m:Mach) (av:Value) (w:World) (h:Ints w av m.args) (hf:Fine m) :
  Calls Try.prog 65 #[mv m av] w (Gives w (takes m)):=by
 obtain⟨h1,h2,hl⟩:=hf
 have H:=Lib.hid h;clear h
 have HC:Hid (∀ w,Ints w av m.args→Calls Try.prog 98 #[mv m av] w (Gives w (takes7 m))):=fun w h=>rtakes7_any m av w h hl
 unfold mv at HC ⊢
 by_cases g1:m.op=2
 ·have e:takes m=[m.a,m.b]:=by unfold takes;rw[if_pos g1]
  rw[e];clear e
  have g1':(m.op==2)=true:=by simpa using g1
  clear g1
  go_enter Try.func65,Try.ntmps65
  go_wp2
  go_ret
  exact gives_last ((Since.refl _).alloc _) _ _ (by simp) rfl (by simp[maxLen]) rfl
 ·have g1':(m.op==2)=false:=by simpa using g1
  by_cases g2:m.op=30
  ·have e:takes m=[16+m.imm]:=by unfold takes;rw[if_neg g1,if_pos g2]
   rw[e];clear e
   have g2':(m.op==30)=true:=by simpa using g2
   clear g1 g2
   go_enter Try.func65,Try.ntmps65
   go_wp2
   go_ret
   exact gives_last ((Since.refl _).alloc _) _ _ (by simp) rfl (by simp[maxLen]) rfl
  ·have e:takes m=takes7 m:=by unfold takes;rw[if_neg g1,if_neg g2]
   rw[e];clear e
   have g2':(m.op==30)=false:=by simpa using g2
   clear g1 g2
   go_enter Try.func65,Try.ntmps65
   go_wp2_with (go_at_call 98;refine (HC.out _ (H.out.keep ((Since.refl _).alloc _))).mono ?_;rintro e w1 ⟨v,rfl,hv,hs⟩)
   go_ret
   exact⟨_,rfl,hv,((Since.refl _).alloc _).trans hs⟩
set_option maxHeartbeats 400000 in
set_option maxRecDepth 100000 in
theorem rmakes_any (m:Mach) (av:Value) (w:World) (h:Ints w av m.args) (hf:Fine m) :
  Calls Try.prog 62 #[mv m av] w (Gives w (makes m)):=by
 obtain⟨h1,h2,hl⟩:=hf
 have H:=Lib.hid h;clear h
 have HC:Hid (∀ w,Ints w av m.args→Calls Try.prog 97 #[mv m av] w (Gives w (makes7 m))):=fun w h=>rmakes7_any m av w h hl
 unfold mv at HC ⊢
 by_cases g1:m.op=2
 ·have e:makes m=[m.a,m.b]:=by unfold makes;rw[if_pos g1]
  rw[e];clear e
  have g1':(m.op==2)=true:=by simpa using g1
  clear g1
  go_enter Try.func62,Try.ntmps62
  go_wp2
  go_ret
  exact gives_last ((Since.refl _).alloc _) _ _ (by simp) rfl (by simp[maxLen]) rfl
 ·have g1':(m.op==2)=false:=by simpa using g1
  by_cases g2:m.op=31
  ·have e:makes m=[16+m.imm]:=by unfold makes;rw[if_neg g1,if_pos g2]
   rw[e];clear e
   have g2':(m.op==31)=true:=by simpa using g2
   clear g1 g2
   go_enter Try.func62,Try.ntmps62
   go_wp2
   go_ret
   exact gives_last ((Since.refl _).alloc _) _ _ (by simp) rfl (by simp[maxLen]) rfl
  ·have e:makes m=makes7 m:=by unfold makes;rw[if_neg g1,if_neg g2]
   rw[e];clear e
   have g2':(m.op==31)=false:=by simpa using g2
   clear g1 g2
   go_enter Try.func62,Try.ntmps62
   go_wp2_with (go_at_call 97;refine (HC.out _ (H.out.keep ((Since.refl _).alloc _))).mono ?_;rintro e w1 ⟨v,rfl,hv,hs⟩)
   go_ret
   exact⟨_,rfl,hv,((Since.refl _).alloc _).trans hs⟩
set_option maxHeartbeats 2000000 in
set_option maxRecDepth 100000 in
theorem meet_any (v bv:Value) (l lb:List Int) (w:World) (h:Nums .i64 w v l) (hb:Nums .i64 w bv lb) :
  Calls Try.prog 64 #[v,bv] w (TellsS (meetB l lb) w):=by
 have hm:=h.len
 have hm2:=hb.len
 obtain⟨a,cap,rfl⟩:=nums_lenI h
 obtain⟨a2,cap2,rfl⟩:=nums_lenI hb
 obtain⟨_,hc⟩:=nums_cell h
 obtain⟨_,hc2⟩:=nums_cell hb
 have HC:=Lib.hid hc
 have HC2:=Lib.hid hc2
 clear hc hc2 h hb
 unfold maxLen at hm hm2
 unfold meetB
 go_enter Try.func64,Try.ntmps64
 go_wp2
 go_loopw [5] (fun i wr=>∃ k:Nat,k≤l.length∧i=.int .i64 k∧(∀ j y,j<k→l[j]? = some y→(lb.any fun z=>y==z)=false)∧Since w wr) (fun i _=>l.length-(intOf i).toNat)
 case atStart=>exact⟨0,Nat.zero_le _,rfl,fun _ _ h=>by omega,Since.refl _⟩
 case round =>
  obtain⟨k,hk,rfl,hno,hsr⟩:=hrel
  have HNO:=Lib.hid hno;clear hno
  by_cases hlt:k<l.length
  ·obtain⟨x,hx⟩:∃ y,l[k]? = some y:=⟨_,List.getElem?_eq_getElem hlt⟩
   obtain⟨b,off,rfl,hbk,hcell⟩:=HC.out (by intro e;rw[e]at hlt;simp at hlt)
   have hcx:=hcell k x hx
   have HX:=Lib.hid hx
   clear hcell hx
   go_wp2
   obtain⟨wo,rfl⟩:∃ wo:World,wo=wr:=⟨_,rfl⟩
   go_loopw [6] (fun i wr=>∃ k2:Nat,k2≤lb.length∧i=.int .i64 k2∧(∀ j y,j<k2→lb[j]? = some y→(x==y)=false)∧Since w wr) (fun i _=>lb.length-(intOf i).toNat)
   case atStart=>exact⟨0,Nat.zero_le _,rfl,fun _ _ h=>by omega,hsr⟩
   case round =>
    obtain⟨k2,hk2,rfl,hno2,hsr2⟩:=hrel
    have HNO2:=Lib.hid hno2;clear hno2
    by_cases hlt2:k2<lb.length
    ·obtain⟨y,hy⟩:∃ y,lb[k2]? = some y:=⟨_,List.getElem?_eq_getElem hlt2⟩
     obtain⟨b2,off2,rfl,hbk2,hcell2⟩:=HC2.out (by intro e;rw[e]at hlt2;simp at hlt2)
     have hcy:wr.cell? ⟨b2,off2+k2,none⟩=some (.int .i64 y):=by rw[hsr2.cell hbk2];exact hcell2 k2 y hy
     have hcx2:wr.cell? ⟨b,off+k,none⟩=some (.int .i64 x):=by rw[hsr2.cell hbk];exact hcx
     have HY:=Lib.hid hy
     clear hcell2 hy
     have q1:(k:Int)<(l.length:Int):=by omega
     have q2:(k2:Int)<(lb.length:Int):=by omega
     by_cases he:(x==y)=true
     ·have hyes:(lb.any fun z=>x==z)=true:=any_at (p:=fun z=>x==z) HY.out he
      have hyes2:=any_at (p:=fun x=>lb.any fun z=>x==z) HX.out hyes
      have HF:=Lib.hid hyes2;clear hyes hyes2
      go_wp2
      go_quiet (fail)
      go_wp2
      go_ret
      exact⟨by rw[HF.out];rfl,hsr2.drewN _⟩
     ·have he:(x==y)=false:=by simpa using he
      go_wp2
      go_quiet (fail)
      go_wp2
      go_roundw
      case rel =>
       refine⟨k2+1,by omega,by go_num,fun j z hj hz=>?_,hsr2.drewN _⟩
       by_cases e:j=k2
       ·subst e;have:=HY.out.symm.trans hz;cases this;exact he
       ·exact HNO2.out j z (by omega) hz
      case measure=>simp[intOf];omega
    ·obtain rfl:k2=lb.length:=by omega
     have hyes:=any_prefix (p:=fun z=>x==z) rfl HNO2.out
     have HF:=Lib.hid hyes;clear hyes
     go_wp2
     go_roundw
     case rel =>
      refine⟨k+1,by omega,by go_num,fun j z hj hz=>?_,hsr2⟩
      by_cases e:j=k
      ·subst e;have:=HX.out.symm.trans hz;cases this;exact HF.out
      ·exact HNO.out j z (by omega) hz
     case measure=>simp[intOf];omega
  ·obtain rfl:k=l.length:=by omega
   have hyes:=any_prefix (p:=fun x=>lb.any fun z=>x==z) rfl HNO.out
   have HF:=Lib.hid hyes;clear hyes
   go_wp2
   go_ret
   exact⟨by rw[HF.out];rfl,hsr⟩
set_option maxHeartbeats 1000000 in
set_option maxRecDepth 100000 in
theorem effect_any (op:Int) (w:World):Calls Try.prog 66 #[.int .i64 op] w (Tells (strictB op) w):=by
 by_cases g24:op=24
 ·subst g24
  have e1:strictB 24=true:=rfl
  rw[e1];clear e1
  go_enter Try.func66,Try.ntmps66
  go_wp2
  go_ret
  exact⟨rfl,rfl⟩
 by_cases g25:op=25
 ·subst g25
  have e1:strictB 25=true:=rfl
  rw[e1];clear e1
  go_enter Try.func66,Try.ntmps66
  go_wp2
  go_ret
  exact⟨rfl,rfl⟩
 by_cases g28:op=28
 ·subst g28
  have e1:strictB 28=true:=rfl
  rw[e1];clear e1
  go_enter Try.func66,Try.ntmps66
  go_wp2
  go_ret
  exact⟨rfl,rfl⟩
 by_cases g26:op=26
 ·subst g26
  have e1:strictB 26=true:=rfl
  rw[e1];clear e1
  go_enter Try.func66,Try.ntmps66
  go_wp2
  go_ret
  exact⟨rfl,rfl⟩
 by_cases g27:op=27
 ·subst g27
  have e1:strictB 27=true:=rfl
  rw[e1];clear e1
  go_enter Try.func66,Try.ntmps66
  go_wp2
  go_ret
  exact⟨rfl,rfl⟩
 by_cases g17:op=17
 ·subst g17
  have e1:strictB 17=true:=rfl
  rw[e1];clear e1
  go_enter Try.func66,Try.ntmps66
  go_wp2
  go_ret
  exact⟨rfl,rfl⟩
 have e1:strictB op=false:=by simp[strictB,g24,g25,g28,g26,g27,g17]
 have n24:(op==24)=false:=by simpa using g24
 have n25:(op==25)=false:=by simpa using g25
 have n28:(op==28)=false:=by simpa using g28
 have n26:(op==26)=false:=by simpa using g26
 have n27:(op==27)=false:=by simpa using g27
 have n17:(op==17)=false:=by simpa using g17
 rw[e1]
 clear e1 g24 g25 g28 g26 g27 g17
 go_enter Try.func66,Try.ntmps66
 go_wp2
 go_ret
 exact⟨rfl,rfl⟩
set_option maxHeartbeats 1000000 in
set_option maxRecDepth 100000 in
theorem load17_any (op:Int) (w:World):Calls Try.prog 67 #[.int .i64 op] w (Tells (loadB op) w):=by
 by_cases g24:op=24
 ·subst g24
  have e1:loadB 24=true:=rfl
  rw[e1];clear e1
  go_enter Try.func67,Try.ntmps67
  go_wp2
  go_ret
  exact⟨rfl,rfl⟩
 by_cases g25:op=25
 ·subst g25
  have e1:loadB 25=true:=rfl
  rw[e1];clear e1
  go_enter Try.func67,Try.ntmps67
  go_wp2
  go_ret
  exact⟨rfl,rfl⟩
 have e1:loadB op=false:=by simp[loadB,g24,g25]
 have n24:(op==24)=false:=by simpa using g24
 have n25:(op==25)=false:=by simpa using g25
 rw[e1]
 clear e1 g24 g25
 go_enter Try.func67,Try.ntmps67
 go_wp2
 go_ret
 exact⟨rfl,rfl⟩
end Go.Proofs.Ytkpbmbhejpmboaa
