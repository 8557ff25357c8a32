import Derived.Test.YtmhojfpidedjeaaGreatDoorTp17
import Derived.Test.YtmhojfpidedjeaaGreatDoorTp23
namespace Go.Proofs.YtmhojfpidedjeaaGreatDoor
open Go.RowKit Go.Lib
set_option linter.unusedVariables false
set_option maxHeartbeats 2000000
set_option maxRecDepth 100000
theorem Zbo (f g:FnV) (w:World) (hf:FnIn w f) (hg:FnIn w g) (he:f.d=g.d) (hr:Fn3 f) (hm:Fn3 g) (hn:(VH f.d).length≤4000000000000000000):Calls Tryz.prog 19 #[fv f,fv g] w fun e w'=>e=.returned (.bool true)∧Since w w':=by
 obtain⟨z,hz⟩:∃ z:ByteArray,⟨(VH f.d).toArray⟩=z:=⟨_,rfl⟩
 have hl:=hid (fun (W:World) (hs:Since w W)=>(show Calls Tryz.prog 40 #[fv f] W (Xl z W) from by rw[←hz];exact ZaI f W (hf.keep hs) hr hn))
 have hj:=hid (fun (W:World) (hs:Since w W)=>(show Calls Tryz.prog 40 #[fv g] W (Xl z W) from by rw[←hz,he];exact ZaI g W (hg.keep hs) hm (by rw[←he];exact hn)))
 obtain⟨p1,b1,v1⟩:=f;obtain⟨p2,b2,v2⟩:=g;obtain⟨a1,c1,e1,_⟩:=RowIn.shape hf;obtain⟨n1,hp⟩:∃ n,b1.length=n:=⟨_,rfl⟩
 replace e1:v1=.slice a1 n1 c1:=by rw[←hp];exact e1
 subst e1;obtain⟨a2,c2,e2,_⟩:=RowIn.shape hg;obtain⟨n2,ho⟩:∃ n,b2.length=n:=⟨_,rfl⟩
 replace e2:v2=.slice a2 n2 c2:=by rw[←ho];exact e2
 subst e2;clear hf hg he hr hm hn hz hp ho;unfold fv at hl hj ⊢;dsimp only at hl hj ⊢;go_enter Tryz.func19,Tryz.ntmps19
 go_wp2_with fail
 obtain⟨q1,hh⟩:∃ q,w.heap.size=q:=⟨_,rfl⟩
 obtain⟨w2,hc⟩:∃ w2,(w.alloc (.cells #[.int .i64 p1,.slice a1 n1 c1] 24)).alloc (.cells #[.int .i64 p2,.slice a2 n2 c2] 24)=w2:=⟨_,rfl⟩
 have hi:=zH (Since w w2) (by rw[←hc];exact ((Since.refl w).alloc _).alloc _)
 have ht:=zH (HeapIs w2 q1 #[.int .i64 p1,.slice a1 n1 c1] 24) (by rw[←hc,←hh];exact (HeapIs.new w _ _).keep ((Since.refl _).alloc _))
 have hq:=zH (HeapIs w2 (q1+1) #[.int .i64 p2,.slice a2 n2 c2] 24) (by rw[←hc,←hh];exact ZbP w _ _ _);rw[hc];try rw[hh]
 clear hc hh;refine Zb 5 rfl (by decide +kernel) (by decide +kernel) (by decide +kernel) (by decide)
  [Is (.agg #[.int .i64 p1,.slice a1 n1 c1]),Is (.string z),Is (.agg #[.int .i64 p2,.slice a2 n2 c2]),Is (.string z),Is (.bool true)]
  (by repeat (first | exact trivial | refine⟨Is.stable _,?_⟩ | refine⟨ZV.stable _ _,?_⟩ | refine⟨IsRows.stable _ _,?_⟩)) ⟨?_,?_,?_,?_,?_,trivial⟩ ?_
 all_goals
  intro vs w8 hs hk;try intro _
  simp only[List.take,List.drop,putAll,Act.put,Zh,Zc,Zd,Is,List.setIfInBounds_toArray,List.set_cons_zero,List.set_cons_succ,Nat.reduceAdd]at hk ⊢;try simp only[hk]
 ·have hb:=ht.out.keep hs;have z0:=hb.cell 0;have z1:=hb.cell 1;have z2:=hb.lt;clear hb;go_wp2
  exact⟨_,rfl,rfl,.refl _⟩
 ·have HC:=hid (hl.out w8 (hi.out.trans hs));clear hk;go_wp2_with fail
  refine HC.out.mono ?_;rintro e w9 ⟨rfl,ha⟩;have ha:Since w8 w9:=ha;have hd:=hid ha;clear ha;go_wp2
  exact⟨_,rfl,rfl,hd.out⟩
 ·have hb:=hq.out.keep hs;have z0:=hb.cell 0;have z1:=hb.cell 1;have z2:=hb.lt;clear hb;go_wp2
  exact⟨_,rfl,rfl,.refl _⟩
 ·have HC:=hid (hj.out w8 (hi.out.trans hs));clear hk;go_wp2_with fail
  refine HC.out.mono ?_;rintro e w9 ⟨rfl,ha⟩;have ha:Since w8 w9:=ha;have hd:=hid ha;clear ha;go_wp2
  exact⟨_,rfl,rfl,hd.out⟩
 ·go_wp2
  exact⟨_,rfl,rfl,.refl _⟩
 ·have hd:=hid (hi.out.trans hs);clear hs hk;go_wp2
  go_ret
  exact⟨rfl,hd.out⟩
end Go.Proofs.YtmhojfpidedjeaaGreatDoor
