/- jacquardref03.Same: functions of the same data are the same. -/
import Derived.Test.YtmhojfpidedjeaaGreatDoorTq17
import Derived.Test.YtmhojfpidedjeaaGreatDoorTq23
namespace Go.Proofs.YtmhojfpidedjeaaGreatDoor
open Go.RowKit
set_option linter.unusedVariables false
set_option maxHeartbeats 2000000 in
set_option maxRecDepth 100000 in
theorem same_any (f g:FnV) (w:World) (hf:FnIn w f) (hg:FnIn w g) (he:f.d=g.d) (hr:Fn3 f) (hr2:Fn3 g) (hn:(print3 f.d).length≤4000000000000000000):Calls Tryz.prog 19 #[fv f,fv g] w fun e w'=>e=.returned (.bool true)∧Since w w':=by
 obtain⟨z,hz⟩:∃ z:ByteArray,⟨(print3 f.d).toArray⟩=z:=⟨_,rfl⟩
 have HP1:=Lib.hid (fun (W:World) (hs:Since w W)=>(show Calls Tryz.prog 40 #[fv f] W (StrQ z W) from by rw[←hz];exact print_any f W (hf.keep hs) hr hn))
 have HP2:=Lib.hid (fun (W:World) (hs:Since w W)=>(show Calls Tryz.prog 40 #[fv g] W (StrQ z W) from by rw[←hz,he];exact print_any g W (hg.keep hs) hr2 (by rw[←he];exact hn)))
 obtain⟨p1,b1,v1⟩:=f
 obtain⟨p2,b2,v2⟩:=g
 obtain⟨a1,c1,e1,_⟩:=RowIn.shape hf
 obtain⟨n1,hn1⟩:∃ n,b1.length=n:=⟨_,rfl⟩
 replace e1:v1=.slice a1 n1 c1:=by rw[←hn1];exact e1
 subst e1
 obtain⟨a2,c2,e2,_⟩:=RowIn.shape hg
 obtain⟨n2,hn2⟩:∃ n,b2.length=n:=⟨_,rfl⟩
 replace e2:v2=.slice a2 n2 c2:=by rw[←hn2];exact e2
 subst e2
 clear hf hg he hr hr2 hn hz hn1 hn2
 unfold fv at HP1 HP2 ⊢
 dsimp only at HP1 HP2 ⊢
 go_enter Tryz.func19,Tryz.ntmps19
 go_wp2_with fail
 obtain⟨q1,hq1⟩:∃ q,w.heap.size=q:=⟨_,rfl⟩
 obtain⟨w2,hw2⟩:∃ w2,(w.alloc (.cells #[.int .i64 p1,.slice a1 n1 c1] 24)).alloc (.cells #[.int .i64 p2,.slice a2 n2 c2] 24)=w2:=⟨_,rfl⟩
 have HS2:=Lib.hid (show Since w w2 from by rw[←hw2];exact ((Since.refl w).alloc _).alloc _)
 have HB1:=Lib.hid (show HeapIs w2 q1 #[.int .i64 p1,.slice a1 n1 c1] 24 from by rw[←hw2,←hq1];exact (HeapIs.new w _ _).keep ((Since.refl _).alloc _))
 have HB2:=Lib.hid (show HeapIs w2 (q1+1) #[.int .i64 p2,.slice a2 n2 c2] 24 from by rw[←hw2,←hq1];exact heap_two w _ _ _)
 rw[hw2]
 try rw[hq1]
 clear hw2 hq1
 refine wp_region_since_tail 5 rfl (by decide +kernel) (by decide +kernel) (by decide +kernel) (by decide)
  [Is (.agg #[.int .i64 p1,.slice a1 n1 c1]),Is (.string z),Is (.agg #[.int .i64 p2,.slice a2 n2 c2]),Is (.string z),Is (.bool true)]
  (by repeat (first | exact trivial | refine⟨Is.stable _,?_⟩ | refine⟨IsNums.stable _ _,?_⟩ | refine⟨IsRows.stable _ _,?_⟩)) ⟨?_,?_,?_,?_,?_,trivial⟩ ?_
 all_goals
  intro vs w8 hs hk
  try intro _
  simp only[List.take,List.drop,putAll,Act.put,Knows,KnowsAll,nthF,Is,List.setIfInBounds_toArray,List.set_cons_zero,List.set_cons_succ,Nat.reduceAdd]at hk ⊢
  try simp only[hk]
 ·have hb:=HB1.out.keep hs
  have z0:=hb.cell 0
  have z1:=hb.cell 1
  have z2:=hb.lt
  clear hb
  go_wp2
  exact⟨_,rfl,rfl,Since.refl _⟩
 ·have HC:=Lib.hid (HP1.out w8 (HS2.out.trans hs))
  clear hk
  go_wp2_with fail
  refine HC.out.mono ?_
  rintro e w9 ⟨rfl,hs9⟩
  have hs9:Since w8 w9:=hs9
  have HS9:=Lib.hid hs9
  clear hs9
  go_wp2
  exact⟨_,rfl,rfl,HS9.out⟩
 ·have hb:=HB2.out.keep hs
  have z0:=hb.cell 0
  have z1:=hb.cell 1
  have z2:=hb.lt
  clear hb
  go_wp2
  exact⟨_,rfl,rfl,Since.refl _⟩
 ·have HC:=Lib.hid (HP2.out w8 (HS2.out.trans hs))
  clear hk
  go_wp2_with fail
  refine HC.out.mono ?_
  rintro e w9 ⟨rfl,hs9⟩
  have hs9:Since w8 w9:=hs9
  have HS9:=Lib.hid hs9
  clear hs9
  go_wp2
  exact⟨_,rfl,rfl,HS9.out⟩
 ·go_wp2
  exact⟨_,rfl,rfl,Since.refl _⟩
 ·have HS9:=Lib.hid (HS2.out.trans hs)
  clear hs hk
  go_wp2
  go_ret
  exact⟨rfl,HS9.out⟩
end Go.Proofs.YtmhojfpidedjeaaGreatDoor
