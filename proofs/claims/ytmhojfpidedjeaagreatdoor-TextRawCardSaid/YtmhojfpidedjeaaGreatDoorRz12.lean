/- The document's lines of instructions and terms. (Printed by tools/gen_text/rins.py.) The document's terms. (Printed by tools/gen_text/rterm.py.) The document's parser: place, cut, words. -/
import Derived.Test.YtmhojfpidedjeaaGreatDoorRz06
import Derived.Test.YtmhojfpidedjeaaGreatDoorRz10
import Derived.Test.YtmhojfpidedjeaaGreatDoorRz11
namespace Go.Proofs.YtmhojfpidedjeaaGreatDoor
open Go.RowKit
set_option linter.unusedVariables false
theorem in64 {x : Int} (h:In32W x):In64 x:=⟨by have:=h.1;omega,by have:=h.2;omega⟩
set_option maxHeartbeats 8000000 in
set_option maxRecDepth 100000 in
theorem rins25_any (x:FIns) (w:World) (hA:FInsIn w x) (hx:InsR x) (hn:(insS x.d).length≤1000000000):Calls Tryz.prog 28 #[fiv x] w (StrQ ⟨(insS x.d).toArray⟩ w):=by
 obtain⟨op,dst,two,args,av,imm⟩:=x
 replace hA:Ints w av args:=hA
 obtain⟨aa,ac,e⟩:=nums_lenI hA
 obtain rfl:av=.slice aa args.length ac:=e
 unfold fiv
 have HA:=Lib.hid hA
 have HX:=Lib.hid hx
 have HN:=Lib.hid hn
 have hi1:=hx.imm.1
 have hi2:=hx.imm.2
 dsimp only at hi1 hi2
 clear hA hx hn
 obtain⟨y,hy⟩:∃ y,nameF op=y:=⟨_,rfl⟩
 have HY:=Lib.hid hy
 have hnm:=fun w1=>rname_any op w1 HX.out.op
 rw[hy]at hnm
 have HNM:=Lib.hid hnm
 clear hnm hy
 go_enter Tryz.func28,Tryz.ntmps28
 go_wp2_with fail
 refine (HNM.out _).mono ?_
 rintro e w1 ⟨rfl,hs⟩
 have hx1:=(HeapIs.new w #[.int .i64 op,.int .i64 dst,.int .i64 two,.slice aa args.length ac,.int .i32 imm] 51).keep hs
 have HQ:=Lib.hid hx1
 have HSW:=Lib.hid (((Since.refl w).alloc (.cells #[.int .i64 op,.int .i64 dst,.int .i64 two,.slice aa args.length ac,.int .i32 imm] 51)).trans hs)
 have c0:w1.cell? ⟨w.heap.size,0,none⟩=some (.int .i64 op):=hx1.cell 0
 have hl1:=hx1.lt
 clear hs hx1
 by_cases h1:op=1
 ·subst h1
  obtain⟨z0,hz0⟩:∃ z:ByteArray,⟨(dS dst).toArray⟩=z:=⟨_,rfl⟩
  have hd0:=fun W (_:Since w W)=>rd_any dst W HX.out.dst
  rw[hz0]at hd0
  have HD0:=Lib.hid hd0
  obtain⟨z1,hz1⟩:∃ z:ByteArray,⟨(dS imm).toArray⟩=z:=⟨_,rfl⟩
  have hd1:=fun W (_:Since w W)=>rd_any imm W (in64 HX.out.imm)
  rw[hz1]at hd1
  have HD1:=Lib.hid hd1
  have he:y++z0++z1=⟨(insS (FIns.d ⟨1,dst,two,args,.slice aa args.length ac,imm⟩)).toArray⟩:=by
   apply bytes_ext
   rw[bytes_app,bytes_app,←HY.out,←hz0,←hz1]
   simp[insS,FIns.d,opS,dS]
  have HE:=Lib.hid he
  have hsz:y.size+z0.size+z1.size≤1000000000:=by
   have h1:=HN.out
   rw[←bs_size,←he]at h1
   simpa only [ByteArray.size_append]using h1
  have hf0:¬ 9223372036854775807<y.size+z0.size:=by omega
  have hf1:¬ 9223372036854775807<y.size+z0.size+z1.size:=by omega
  clear hsz he hz0 hd0 hz1 hd1
  go_wp2_with fail
  clear c0 hl1
  refine wp_region_list_facts rfl (by decide +kernel) (by decide +kernel)
   [Is (.string y),Is (.pointer (some ⟨w.heap.size,1,none⟩)),Is (.int .i64 dst),Is (.string z0),Is (.string (y++z0)),Is (.pointer (some ⟨w.heap.size,4,none⟩)),Is (.int .i32 imm),Is (.int .i64 imm),Is (.string z1),Is (.string (y++z0++z1)),Is (.string (y++z0++z1))]
   (by repeat (first | exact trivial | refine⟨Is.stable _,?_⟩ | refine⟨IsNums.stable _ _,?_⟩ | refine⟨IsRows.stable _ _,?_⟩)) ⟨?_,?_,?_,?_,?_,?_,?_,?_,?_,?_,?_,trivial⟩ ?_
  all_goals
   intro vs w9 hs hk
   simp only[putAll,Act.put,Knows,KnowsAll,nthF,Is,List.setIfInBounds_toArray,List.set_cons_zero,List.set_cons_succ,Nat.reduceAdd,List.length_cons,List.length_nil]at hk ⊢
   try simp only[hk]
  ·go_wp2
   exact⟨_,rfl,rfl,Since.refl _⟩
  ·go_wp2
   exact⟨_,rfl,rfl,Since.refl _⟩
  ·have hq:=HQ.out.keep hs
   have hqc:w9.cell? ⟨w.heap.size,1,none⟩=some (.int .i64 dst):=hq.cell 1
   have hql:=hq.lt
   go_wp2
   exact⟨_,rfl,rfl,Since.refl _⟩
  ·go_wp2_with fail
   refine (HD0.out _ (HSW.out.trans hs)).mono ?_
   rintro e w2 ⟨rfl,hs2⟩
   go_wp2
   exact⟨_,rfl,rfl,hs2⟩
  ·go_wp2
   exact⟨_,rfl,rfl,Since.refl _⟩
  ·go_wp2
   exact⟨_,rfl,rfl,Since.refl _⟩
  ·have hq:=HQ.out.keep hs
   have hqc:w9.cell? ⟨w.heap.size,4,none⟩=some (.int .i32 imm):=hq.cell 4
   have hql:=hq.lt
   go_wp2
   exact⟨_,rfl,rfl,Since.refl _⟩
  ·go_wp2
   exact⟨_,rfl,rfl,Since.refl _⟩
  ·go_wp2_with fail
   refine (HD1.out _ (HSW.out.trans hs)).mono ?_
   rintro e w2 ⟨rfl,hs2⟩
   go_wp2
   exact⟨_,rfl,rfl,hs2⟩
  ·go_wp2
   exact⟨_,rfl,rfl,Since.refl _⟩
  ·go_wp2
   exact⟨_,rfl,rfl,Since.refl _⟩
  ·rw[HE.out]
   have HS9:=Lib.hid (HSW.out.trans hs)
   clear hs hk
   go_wp2
   go_ret
   exact⟨rfl,HS9.out⟩
 ·by_cases h2:2≤op∧op≤14
  ·obtain⟨h2,h3⟩:=h2
   have e1:(op==1)=false:=by simpa using h1
   obtain⟨z0,hz0⟩:∃ z:ByteArray,⟨(dS dst).toArray⟩=z:=⟨_,rfl⟩
   have hd0:=fun W (_:Since w W)=>rd_any dst W HX.out.dst
   rw[hz0]at hd0
   have HD0:=Lib.hid hd0
   obtain⟨z1,hz1⟩:∃ z:ByteArray,⟨(allS args).toArray⟩=z:=⟨_,rfl⟩
   have HL1:=Lib.hid (show (allS args).length≤1000000000 from by have:=HN.out;simp only[insS,FIns.d,h1,h2,h3]at this;simp at this;omega)
   have hd1:=fun W (h:Since w W)=>rall_any (.slice aa args.length ac) args W (Nums.keep HA.out h) HX.out.args (by have:=HL1.out;omega)
   rw[hz1]at hd1
   have HD1:=Lib.hid hd1
   have he:y++z0++z1=⟨(insS (FIns.d ⟨op,dst,two,args,.slice aa args.length ac,imm⟩)).toArray⟩:=by
    apply bytes_ext
    rw[bytes_app,bytes_app,←HY.out,←hz0,←hz1]
    simp[insS,FIns.d,opS,h1,h2,h3]
   have HE:=Lib.hid he
   have hsz:y.size+z0.size+z1.size≤1000000000:=by
    have h1:=HN.out
    rw[←bs_size,←he]at h1
    simpa only [ByteArray.size_append]using h1
   have hf0:¬ 9223372036854775807<y.size+z0.size:=by omega
   have hf1:¬ 9223372036854775807<y.size+z0.size+z1.size:=by omega
   clear hsz he hz0 hd0 hz1 hd1
   clear h1
   go_wp2_with fail
   clear c0 hl1 e1 h2 h3
   refine wp_region_list_facts rfl (by decide +kernel) (by decide +kernel)
    [Is (.string y),Is (.pointer (some ⟨w.heap.size,1,none⟩)),Is (.int .i64 dst),Is (.string z0),Is (.string (y++z0)),Is (.pointer (some ⟨w.heap.size,3,none⟩)),Is (.slice aa args.length ac),Is (.string z1),Is (.string (y++z0++z1)),Is (.string (y++z0++z1))]
    (by repeat (first | exact trivial | refine⟨Is.stable _,?_⟩ | refine⟨IsNums.stable _ _,?_⟩ | refine⟨IsRows.stable _ _,?_⟩)) ⟨?_,?_,?_,?_,?_,?_,?_,?_,?_,?_,trivial⟩ ?_
   all_goals
    intro vs w9 hs hk
    simp only[putAll,Act.put,Knows,KnowsAll,nthF,Is,List.setIfInBounds_toArray,List.set_cons_zero,List.set_cons_succ,Nat.reduceAdd,List.length_cons,List.length_nil]at hk ⊢
    try simp only[hk]
   ·go_wp2
    exact⟨_,rfl,rfl,Since.refl _⟩
   ·go_wp2
    exact⟨_,rfl,rfl,Since.refl _⟩
   ·have hq:=HQ.out.keep hs
    have hqc:w9.cell? ⟨w.heap.size,1,none⟩=some (.int .i64 dst):=hq.cell 1
    have hql:=hq.lt
    go_wp2
    exact⟨_,rfl,rfl,Since.refl _⟩
   ·go_wp2_with fail
    refine (HD0.out _ (HSW.out.trans hs)).mono ?_
    rintro e w2 ⟨rfl,hs2⟩
    go_wp2
    exact⟨_,rfl,rfl,hs2⟩
   ·go_wp2
    exact⟨_,rfl,rfl,Since.refl _⟩
   ·go_wp2
    exact⟨_,rfl,rfl,Since.refl _⟩
   ·have hq:=HQ.out.keep hs
    have hqc:w9.cell? ⟨w.heap.size,3,none⟩=some (.slice aa args.length ac):=hq.cell 3
    have hql:=hq.lt
    go_wp2
    exact⟨_,rfl,rfl,Since.refl _⟩
   ·go_wp2_with fail
    refine (HD1.out _ (HSW.out.trans hs)).mono ?_
    rintro e w2 ⟨rfl,hs2⟩
    go_wp2
    exact⟨_,rfl,rfl,hs2⟩
   ·go_wp2
    exact⟨_,rfl,rfl,Since.refl _⟩
   ·go_wp2
    exact⟨_,rfl,rfl,Since.refl _⟩
   ·rw[HE.out]
    have HS9:=Lib.hid (HSW.out.trans hs)
    clear hs hk
    go_wp2
    go_ret
    exact⟨rfl,HS9.out⟩
  ·by_cases h15:op=15
   ·subst h15
    clear h1 h2
    obtain⟨z0,hz0⟩:∃ z:ByteArray,⟨(dS dst).toArray⟩=z:=⟨_,rfl⟩
    have hd0:=fun W (_:Since w W)=>rd_any dst W HX.out.dst
    rw[hz0]at hd0
    have HD0:=Lib.hid hd0
    obtain⟨z1,hz1⟩:∃ z:ByteArray,⟨(allS args).toArray⟩=z:=⟨_,rfl⟩
    have HL1:=Lib.hid (show (allS args).length≤1000000000 from by have:=HN.out;simp only[insS,FIns.d,dS]at this;simp at this;omega)
    have hd1:=fun W (h:Since w W)=>rall_any (.slice aa args.length ac) args W (Nums.keep HA.out h) HX.out.args (by have:=HL1.out;omega)
    rw[hz1]at hd1
    have HD1:=Lib.hid hd1
    obtain⟨z2,hz2⟩:∃ z:ByteArray,⟨(dS imm).toArray⟩=z:=⟨_,rfl⟩
    have hd2:=fun W (_:Since w W)=>rd_any imm W (in64 HX.out.imm)
    rw[hz2]at hd2
    have HD2:=Lib.hid hd2
    have he:y++z0++z1++z2=⟨(insS (FIns.d ⟨15,dst,two,args,.slice aa args.length ac,imm⟩)).toArray⟩:=by
     apply bytes_ext
     rw[bytes_app,bytes_app,bytes_app,←HY.out,←hz0,←hz1,←hz2]
     simp[insS,FIns.d,opS,dS]
    have HE:=Lib.hid he
    have hsz:y.size+z0.size+z1.size+z2.size≤1000000000:=by
     have h1:=HN.out
     rw[←bs_size,←he]at h1
     simpa only [ByteArray.size_append]using h1
    have hf0:¬ 9223372036854775807<y.size+z0.size:=by omega
    have hf1:¬ 9223372036854775807<y.size+z0.size+z1.size:=by omega
    have hf2:¬ 9223372036854775807<y.size+z0.size+z1.size+z2.size:=by omega
    clear hsz he hz0 hd0 hz1 hd1 hz2 hd2
    go_wp2_with fail
    clear c0 hl1
    refine wp_region_list_facts rfl (by decide +kernel) (by decide +kernel)
     [Is (.string y),Is (.pointer (some ⟨w.heap.size,1,none⟩)),Is (.int .i64 dst),Is (.string z0),Is (.string (y++z0)),Is (.pointer (some ⟨w.heap.size,3,none⟩)),Is (.slice aa args.length ac),Is (.string z1),Is (.string (y++z0++z1)),Is (.pointer (some ⟨w.heap.size,4,none⟩)),Is (.int .i32 imm),Is (.int .i64 imm),Is (.string z2),Is (.string (y++z0++z1++z2)),Is (.string (y++z0++z1++z2))]
     (by repeat (first | exact trivial | refine⟨Is.stable _,?_⟩ | refine⟨IsNums.stable _ _,?_⟩ | refine⟨IsRows.stable _ _,?_⟩)) ⟨?_,?_,?_,?_,?_,?_,?_,?_,?_,?_,?_,?_,?_,?_,?_,trivial⟩ ?_
    all_goals
     intro vs w9 hs hk
     simp only[putAll,Act.put,Knows,KnowsAll,nthF,Is,List.setIfInBounds_toArray,List.set_cons_zero,List.set_cons_succ,Nat.reduceAdd,List.length_cons,List.length_nil]at hk ⊢
     try simp only[hk]
    ·go_wp2
     exact⟨_,rfl,rfl,Since.refl _⟩
    ·go_wp2
     exact⟨_,rfl,rfl,Since.refl _⟩
    ·have hq:=HQ.out.keep hs
     have hqc:w9.cell? ⟨w.heap.size,1,none⟩=some (.int .i64 dst):=hq.cell 1
     have hql:=hq.lt
     go_wp2
     exact⟨_,rfl,rfl,Since.refl _⟩
    ·go_wp2_with fail
     refine (HD0.out _ (HSW.out.trans hs)).mono ?_
     rintro e w2 ⟨rfl,hs2⟩
     go_wp2
     exact⟨_,rfl,rfl,hs2⟩
    ·go_wp2
     exact⟨_,rfl,rfl,Since.refl _⟩
    ·go_wp2
     exact⟨_,rfl,rfl,Since.refl _⟩
    ·have hq:=HQ.out.keep hs
     have hqc:w9.cell? ⟨w.heap.size,3,none⟩=some (.slice aa args.length ac):=hq.cell 3
     have hql:=hq.lt
     go_wp2
     exact⟨_,rfl,rfl,Since.refl _⟩
    ·go_wp2_with fail
     refine (HD1.out _ (HSW.out.trans hs)).mono ?_
     rintro e w2 ⟨rfl,hs2⟩
     go_wp2
     exact⟨_,rfl,rfl,hs2⟩
    ·go_wp2
     exact⟨_,rfl,rfl,Since.refl _⟩
    ·go_wp2
     exact⟨_,rfl,rfl,Since.refl _⟩
    ·have hq:=HQ.out.keep hs
     have hqc:w9.cell? ⟨w.heap.size,4,none⟩=some (.int .i32 imm):=hq.cell 4
     have hql:=hq.lt
     go_wp2
     exact⟨_,rfl,rfl,Since.refl _⟩
    ·go_wp2
     exact⟨_,rfl,rfl,Since.refl _⟩
    ·go_wp2_with fail
     refine (HD2.out _ (HSW.out.trans hs)).mono ?_
     rintro e w2 ⟨rfl,hs2⟩
     go_wp2
     exact⟨_,rfl,rfl,hs2⟩
    ·go_wp2
     exact⟨_,rfl,rfl,Since.refl _⟩
    ·go_wp2
     exact⟨_,rfl,rfl,Since.refl _⟩
    ·rw[HE.out]
     have HS9:=Lib.hid (HSW.out.trans hs)
     clear hs hk
     go_wp2
     go_ret
     exact⟨rfl,HS9.out⟩
   ·by_cases h16:op=16
    ·subst h16
     clear h1 h2 h15
     obtain⟨z0,hz0⟩:∃ z:ByteArray,⟨(allS args).toArray⟩=z:=⟨_,rfl⟩
     have HL0:=Lib.hid (show (allS args).length≤1000000000 from by have:=HN.out;simp only[insS,FIns.d,dS]at this;simp at this;omega)
     have hd0:=fun W (h:Since w W)=>rall_any (.slice aa args.length ac) args W (Nums.keep HA.out h) HX.out.args (by have:=HL0.out;omega)
     rw[hz0]at hd0
     have HD0:=Lib.hid hd0
     obtain⟨z1,hz1⟩:∃ z:ByteArray,⟨(dS imm).toArray⟩=z:=⟨_,rfl⟩
     have hd1:=fun W (_:Since w W)=>rd_any imm W (in64 HX.out.imm)
     rw[hz1]at hd1
     have HD1:=Lib.hid hd1
     have he:y++z0++z1=⟨(insS (FIns.d ⟨16,dst,two,args,.slice aa args.length ac,imm⟩)).toArray⟩:=by
      apply bytes_ext
      rw[bytes_app,bytes_app,←HY.out,←hz0,←hz1]
      simp[insS,FIns.d,opS,dS]
     have HE:=Lib.hid he
     have hsz:y.size+z0.size+z1.size≤1000000000:=by
      have h1:=HN.out
      rw[←bs_size,←he]at h1
      simpa only [ByteArray.size_append]using h1
     have hf0:¬ 9223372036854775807<y.size+z0.size:=by omega
     have hf1:¬ 9223372036854775807<y.size+z0.size+z1.size:=by omega
     clear hsz he hz0 hd0 hz1 hd1
     go_wp2_with fail
     clear c0 hl1
     refine wp_region_list_facts rfl (by decide +kernel) (by decide +kernel)
      [Is (.string y),Is (.pointer (some ⟨w.heap.size,3,none⟩)),Is (.slice aa args.length ac),Is (.string z0),Is (.string (y++z0)),Is (.pointer (some ⟨w.heap.size,4,none⟩)),Is (.int .i32 imm),Is (.int .i64 imm),Is (.string z1),Is (.string (y++z0++z1)),Is (.string (y++z0++z1))]
      (by repeat (first | exact trivial | refine⟨Is.stable _,?_⟩ | refine⟨IsNums.stable _ _,?_⟩ | refine⟨IsRows.stable _ _,?_⟩)) ⟨?_,?_,?_,?_,?_,?_,?_,?_,?_,?_,?_,trivial⟩ ?_
     all_goals
      intro vs w9 hs hk
      simp only[putAll,Act.put,Knows,KnowsAll,nthF,Is,List.setIfInBounds_toArray,List.set_cons_zero,List.set_cons_succ,Nat.reduceAdd,List.length_cons,List.length_nil]at hk ⊢
      try simp only[hk]
     ·go_wp2
      exact⟨_,rfl,rfl,Since.refl _⟩
     ·go_wp2
      exact⟨_,rfl,rfl,Since.refl _⟩
     ·have hq:=HQ.out.keep hs
      have hqc:w9.cell? ⟨w.heap.size,3,none⟩=some (.slice aa args.length ac):=hq.cell 3
      have hql:=hq.lt
      go_wp2
      exact⟨_,rfl,rfl,Since.refl _⟩
     ·go_wp2_with fail
      refine (HD0.out _ (HSW.out.trans hs)).mono ?_
      rintro e w2 ⟨rfl,hs2⟩
      go_wp2
      exact⟨_,rfl,rfl,hs2⟩
     ·go_wp2
      exact⟨_,rfl,rfl,Since.refl _⟩
     ·go_wp2
      exact⟨_,rfl,rfl,Since.refl _⟩
     ·have hq:=HQ.out.keep hs
      have hqc:w9.cell? ⟨w.heap.size,4,none⟩=some (.int .i32 imm):=hq.cell 4
      have hql:=hq.lt
      go_wp2
      exact⟨_,rfl,rfl,Since.refl _⟩
     ·go_wp2
      exact⟨_,rfl,rfl,Since.refl _⟩
     ·go_wp2_with fail
      refine (HD1.out _ (HSW.out.trans hs)).mono ?_
      rintro e w2 ⟨rfl,hs2⟩
      go_wp2
      exact⟨_,rfl,rfl,hs2⟩
     ·go_wp2
      exact⟨_,rfl,rfl,Since.refl _⟩
     ·go_wp2
      exact⟨_,rfl,rfl,Since.refl _⟩
     ·rw[HE.out]
      have HS9:=Lib.hid (HSW.out.trans hs)
      clear hs hk
      go_wp2
      go_ret
      exact⟨rfl,HS9.out⟩
    ·by_cases h17:op=17
     ·subst h17
      clear h1 h2 h15 h16
      obtain⟨z0,hz0⟩:∃ z:ByteArray,⟨(dS dst).toArray⟩=z:=⟨_,rfl⟩
      have hd0:=fun W (_:Since w W)=>rd_any dst W HX.out.dst
      rw[hz0]at hd0
      have HD0:=Lib.hid hd0
      obtain⟨z1,hz1⟩:∃ z:ByteArray,⟨(dS imm).toArray⟩=z:=⟨_,rfl⟩
      have hd1:=fun W (_:Since w W)=>rd_any imm W (in64 HX.out.imm)
      rw[hz1]at hd1
      have HD1:=Lib.hid hd1
      obtain⟨z2,hz2⟩:∃ z:ByteArray,⟨(allS args).toArray⟩=z:=⟨_,rfl⟩
      have HL2:=Lib.hid (show (allS args).length≤1000000000 from by have:=HN.out;simp only[insS,FIns.d,dS]at this;simp at this;omega)
      have hd2:=fun W (h:Since w W)=>rall_any (.slice aa args.length ac) args W (Nums.keep HA.out h) HX.out.args (by have:=HL2.out;omega)
      rw[hz2]at hd2
      have HD2:=Lib.hid hd2
      have he:y++z0++z1++z2=⟨(insS (FIns.d ⟨17,dst,two,args,.slice aa args.length ac,imm⟩)).toArray⟩:=by
       apply bytes_ext
       rw[bytes_app,bytes_app,bytes_app,←HY.out,←hz0,←hz1,←hz2]
       simp[insS,FIns.d,opS,dS]
      have HE:=Lib.hid he
      have hsz:y.size+z0.size+z1.size+z2.size≤1000000000:=by
       have h1:=HN.out
       rw[←bs_size,←he]at h1
       simpa only [ByteArray.size_append]using h1
      have hf0:¬ 9223372036854775807<y.size+z0.size:=by omega
      have hf1:¬ 9223372036854775807<y.size+z0.size+z1.size:=by omega
      have hf2:¬ 9223372036854775807<y.size+z0.size+z1.size+z2.size:=by omega
      clear hsz he hz0 hd0 hz1 hd1 hz2 hd2
      go_wp2_with fail
      clear c0 hl1
      refine wp_region_list_facts rfl (by decide +kernel) (by decide +kernel)
       [Is (.string y),Is (.pointer (some ⟨w.heap.size,1,none⟩)),Is (.int .i64 dst),Is (.string z0),Is (.string (y++z0)),Is (.pointer (some ⟨w.heap.size,4,none⟩)),Is (.int .i32 imm),Is (.int .i64 imm),Is (.string z1),Is (.string (y++z0++z1)),Is (.pointer (some ⟨w.heap.size,3,none⟩)),Is (.slice aa args.length ac),Is (.string z2),Is (.string (y++z0++z1++z2)),Is (.string (y++z0++z1++z2))]
       (by repeat (first | exact trivial | refine⟨Is.stable _,?_⟩ | refine⟨IsNums.stable _ _,?_⟩ | refine⟨IsRows.stable _ _,?_⟩)) ⟨?_,?_,?_,?_,?_,?_,?_,?_,?_,?_,?_,?_,?_,?_,?_,trivial⟩ ?_
      all_goals
       intro vs w9 hs hk
       simp only[putAll,Act.put,Knows,KnowsAll,nthF,Is,List.setIfInBounds_toArray,List.set_cons_zero,List.set_cons_succ,Nat.reduceAdd,List.length_cons,List.length_nil]at hk ⊢
       try simp only[hk]
      ·go_wp2
       exact⟨_,rfl,rfl,Since.refl _⟩
      ·go_wp2
       exact⟨_,rfl,rfl,Since.refl _⟩
      ·have hq:=HQ.out.keep hs
       have hqc:w9.cell? ⟨w.heap.size,1,none⟩=some (.int .i64 dst):=hq.cell 1
       have hql:=hq.lt
       go_wp2
       exact⟨_,rfl,rfl,Since.refl _⟩
      ·go_wp2_with fail
       refine (HD0.out _ (HSW.out.trans hs)).mono ?_
       rintro e w2 ⟨rfl,hs2⟩
       go_wp2
       exact⟨_,rfl,rfl,hs2⟩
      ·go_wp2
       exact⟨_,rfl,rfl,Since.refl _⟩
      ·go_wp2
       exact⟨_,rfl,rfl,Since.refl _⟩
      ·have hq:=HQ.out.keep hs
       have hqc:w9.cell? ⟨w.heap.size,4,none⟩=some (.int .i32 imm):=hq.cell 4
       have hql:=hq.lt
       go_wp2
       exact⟨_,rfl,rfl,Since.refl _⟩
      ·go_wp2
       exact⟨_,rfl,rfl,Since.refl _⟩
      ·go_wp2_with fail
       refine (HD1.out _ (HSW.out.trans hs)).mono ?_
       rintro e w2 ⟨rfl,hs2⟩
       go_wp2
       exact⟨_,rfl,rfl,hs2⟩
      ·go_wp2
       exact⟨_,rfl,rfl,Since.refl _⟩
      ·go_wp2
       exact⟨_,rfl,rfl,Since.refl _⟩
      ·have hq:=HQ.out.keep hs
       have hqc:w9.cell? ⟨w.heap.size,3,none⟩=some (.slice aa args.length ac):=hq.cell 3
       have hql:=hq.lt
       go_wp2
       exact⟨_,rfl,rfl,Since.refl _⟩
      ·go_wp2_with fail
       refine (HD2.out _ (HSW.out.trans hs)).mono ?_
       rintro e w2 ⟨rfl,hs2⟩
       go_wp2
       exact⟨_,rfl,rfl,hs2⟩
      ·go_wp2
       exact⟨_,rfl,rfl,Since.refl _⟩
      ·go_wp2
       exact⟨_,rfl,rfl,Since.refl _⟩
      ·rw[HE.out]
       have HS9:=Lib.hid (HSW.out.trans hs)
       clear hs hk
       go_wp2
       go_ret
       exact⟨rfl,HS9.out⟩
     ·by_cases h18:op=18
      ·subst h18
       clear h1 h2 h15 h16 h17
       obtain⟨z0,hz0⟩:∃ z:ByteArray,⟨(dS dst).toArray⟩=z:=⟨_,rfl⟩
       have hd0:=fun W (_:Since w W)=>rd_any dst W HX.out.dst
       rw[hz0]at hd0
       have HD0:=Lib.hid hd0
       obtain⟨z1,hz1⟩:∃ z:ByteArray,⟨(dS two).toArray⟩=z:=⟨_,rfl⟩
       have hd1:=fun W (_:Since w W)=>rd_any two W HX.out.two
       rw[hz1]at hd1
       have HD1:=Lib.hid hd1
       obtain⟨z2,hz2⟩:∃ z:ByteArray,⟨(allS args).toArray⟩=z:=⟨_,rfl⟩
       have HL2:=Lib.hid (show (allS args).length≤1000000000 from by have:=HN.out;simp only[insS,FIns.d,dS]at this;simp at this;omega)
       have hd2:=fun W (h:Since w W)=>rall_any (.slice aa args.length ac) args W (Nums.keep HA.out h) HX.out.args (by have:=HL2.out;omega)
       rw[hz2]at hd2
       have HD2:=Lib.hid hd2
       have he:y++z0++z1++z2=⟨(insS (FIns.d ⟨18,dst,two,args,.slice aa args.length ac,imm⟩)).toArray⟩:=by
        apply bytes_ext
        rw[bytes_app,bytes_app,bytes_app,←HY.out,←hz0,←hz1,←hz2]
        simp[insS,FIns.d,opS,dS]
       have HE:=Lib.hid he
       have hsz:y.size+z0.size+z1.size+z2.size≤1000000000:=by
        have h1:=HN.out
        rw[←bs_size,←he]at h1
        simpa only [ByteArray.size_append]using h1
       have hf0:¬ 9223372036854775807<y.size+z0.size:=by omega
       have hf1:¬ 9223372036854775807<y.size+z0.size+z1.size:=by omega
       have hf2:¬ 9223372036854775807<y.size+z0.size+z1.size+z2.size:=by omega
       clear hsz he hz0 hd0 hz1 hd1 hz2 hd2
       go_wp2_with fail
       clear c0 hl1
       refine wp_region_list_facts rfl (by decide +kernel) (by decide +kernel)
        [Is (.string y),Is (.pointer (some ⟨w.heap.size,1,none⟩)),Is (.int .i64 dst),Is (.string z0),Is (.string (y++z0)),Is (.pointer (some ⟨w.heap.size,2,none⟩)),Is (.int .i64 two),Is (.string z1),Is (.string (y++z0++z1)),Is (.pointer (some ⟨w.heap.size,3,none⟩)),Is (.slice aa args.length ac),Is (.string z2),Is (.string (y++z0++z1++z2)),Is (.string (y++z0++z1++z2))]
        (by repeat (first | exact trivial | refine⟨Is.stable _,?_⟩ | refine⟨IsNums.stable _ _,?_⟩ | refine⟨IsRows.stable _ _,?_⟩)) ⟨?_,?_,?_,?_,?_,?_,?_,?_,?_,?_,?_,?_,?_,?_,trivial⟩ ?_
       all_goals
        intro vs w9 hs hk
        simp only[putAll,Act.put,Knows,KnowsAll,nthF,Is,List.setIfInBounds_toArray,List.set_cons_zero,List.set_cons_succ,Nat.reduceAdd,List.length_cons,List.length_nil]at hk ⊢
        try simp only[hk]
       ·go_wp2
        exact⟨_,rfl,rfl,Since.refl _⟩
       ·go_wp2
        exact⟨_,rfl,rfl,Since.refl _⟩
       ·have hq:=HQ.out.keep hs
        have hqc:w9.cell? ⟨w.heap.size,1,none⟩=some (.int .i64 dst):=hq.cell 1
        have hql:=hq.lt
        go_wp2
        exact⟨_,rfl,rfl,Since.refl _⟩
       ·go_wp2_with fail
        refine (HD0.out _ (HSW.out.trans hs)).mono ?_
        rintro e w2 ⟨rfl,hs2⟩
        go_wp2
        exact⟨_,rfl,rfl,hs2⟩
       ·go_wp2
        exact⟨_,rfl,rfl,Since.refl _⟩
       ·go_wp2
        exact⟨_,rfl,rfl,Since.refl _⟩
       ·have hq:=HQ.out.keep hs
        have hqc:w9.cell? ⟨w.heap.size,2,none⟩=some (.int .i64 two):=hq.cell 2
        have hql:=hq.lt
        go_wp2
        exact⟨_,rfl,rfl,Since.refl _⟩
       ·go_wp2_with fail
        refine (HD1.out _ (HSW.out.trans hs)).mono ?_
        rintro e w2 ⟨rfl,hs2⟩
        go_wp2
        exact⟨_,rfl,rfl,hs2⟩
       ·go_wp2
        exact⟨_,rfl,rfl,Since.refl _⟩
       ·go_wp2
        exact⟨_,rfl,rfl,Since.refl _⟩
       ·have hq:=HQ.out.keep hs
        have hqc:w9.cell? ⟨w.heap.size,3,none⟩=some (.slice aa args.length ac):=hq.cell 3
        have hql:=hq.lt
        go_wp2
        exact⟨_,rfl,rfl,Since.refl _⟩
       ·go_wp2_with fail
        refine (HD2.out _ (HSW.out.trans hs)).mono ?_
        rintro e w2 ⟨rfl,hs2⟩
        go_wp2
        exact⟨_,rfl,rfl,hs2⟩
       ·go_wp2
        exact⟨_,rfl,rfl,Since.refl _⟩
       ·go_wp2
        exact⟨_,rfl,rfl,Since.refl _⟩
       ·rw[HE.out]
        have HS9:=Lib.hid (HSW.out.trans hs)
        clear hs hk
        go_wp2
        go_ret
        exact⟨rfl,HS9.out⟩
      ·have h14:2≤op→¬ op≤14:=fun a b=>h2 ⟨a,b⟩
       by_cases ha:2≤op
       ·have hb:=h14 ha
        clear h14
        have he:(⟨#[63]⟩:ByteArray)=⟨(insS (FIns.d ⟨op,dst,two,args,.slice aa args.length ac,imm⟩)).toArray⟩:=by
         apply bytes_ext
         simp[insS,FIns.d,h1,h15,h16,h17,h18,hb]
        have HE:=Lib.hid he
        clear he
        clear h2
        go_wp2
        go_ret
        exact⟨by rw[←HE.out];rfl,HSW.out⟩
       ·clear h14
        have he:(⟨#[63]⟩:ByteArray)=⟨(insS (FIns.d ⟨op,dst,two,args,.slice aa args.length ac,imm⟩)).toArray⟩:=by
         apply bytes_ext
         simp[insS,FIns.d,h1,h2,h15,h16,h17,h18]
        have HE:=Lib.hid he
        clear he
        go_wp2
        go_ret
        exact⟨by rw[←HE.out];rfl,HSW.out⟩
theorem rterms_any (w:World):Calls Tryz.prog 51 #[] w (FieldsQ 5 termNames w):=by
 go_enter Tryz.func51,Tryz.ntmps51
 go_wp2
 go_ret
 exact⟨rfl,strs_block w termNames _,(Since.refl _).alloc _⟩
def IsStrs (n:Nat) (l:List ByteArray) (v:Value) (w:World):Prop:=∃ g,v=.slice (some ⟨g,0,none⟩) n n∧StrsAt w g l
def AtStrs (l:List ByteArray) (k:Nat) (v:Value) (w:World):Prop:=∃ g,v=.pointer (some ⟨g,k,none⟩)∧StrsAt w g l
theorem IsStrs.stable (n:Nat) (l:List ByteArray):Stable (IsStrs n l):=fun _ _ _ h hs=>by
 obtain⟨g,h1,h2⟩:=h
 exact⟨g,h1,h2.keep hs⟩
theorem AtStrs.stable (l:List ByteArray) (k:Nat):Stable (AtStrs l k):=fun _ _ _ h hs=>by
 obtain⟨g,h1,h2⟩:=h
 exact⟨g,h1,h2.keep hs⟩
def ftv (t:FTerm):Value:=.agg #[.int .i64 t.kind,t.argsv,t.tov,.int .i32 t.imm]
set_option maxHeartbeats 4000000 in
set_option maxRecDepth 100000 in
theorem rterm25_any (t:FTerm) (w:World) (hA:FTermIn w t) (hx:TermR t) (hn:(termS t.d).length≤1000000000):Calls Tryz.prog 29 #[ftv t] w (StrQ ⟨(termS t.d).toArray⟩ w):=by
 obtain⟨kd,args,argsv,tgt,tov,imm⟩:=t
 obtain⟨hA,hT⟩:=hA
 obtain⟨aa,ac,e⟩:=nums_lenI hA
 obtain rfl:argsv=.slice aa args.length ac:=e
 obtain⟨ta,tc,e⟩:=nums_lenI hT
 obtain rfl:tov=.slice ta tgt.length tc:=e
 unfold ftv
 have HA:=Lib.hid hA
 have HT:=Lib.hid hT
 have HX:=Lib.hid hx
 have HN:=Lib.hid hn
 have hi1:=hx.im.1
 have hi2:=hx.im.2
 have hk1:=hx.kd.1
 have hk2:=hx.kd.2
 dsimp only at hi1 hi2 hk1 hk2 ⊢
 have HQ0:=Lib.hid (HeapIs.new w #[.int .i64 kd,.slice aa args.length ac,.slice ta tgt.length tc,.int .i32 imm] 54)
 have HSW:=Lib.hid ((Since.refl w).alloc (.cells #[.int .i64 kd,.slice aa args.length ac,.slice ta tgt.length tc,.int .i32 imm] 54))
 clear hA hT hx hn
 by_cases h1:kd<1
 ·have he:(⟨#[63]⟩:ByteArray)=⟨(termS (FTerm.d ⟨kd,args,.slice aa args.length ac,tgt,.slice ta tgt.length tc,imm⟩)).toArray⟩:=by
   unfold termS FTerm.d;dsimp only;rw[if_pos (.inl h1)]
  have HE:=Lib.hid he
  rw[←he]
  clear he
  go_enter Tryz.func29,Tryz.ntmps29
  go_wp2
  go_ret
  exact⟨rfl,HSW.out⟩
 ·by_cases h5:5<kd
  ·have he:(⟨#[63]⟩:ByteArray)=⟨(termS (FTerm.d ⟨kd,args,.slice aa args.length ac,tgt,.slice ta tgt.length tc,imm⟩)).toArray⟩:=by
    unfold termS FTerm.d;dsimp only;rw[if_pos (.inr h5)]
   rw[←he]
   clear he
   go_enter Tryz.func29,Tryz.ntmps29
   go_wp2
   go_ret
   exact⟨rfl,HSW.out⟩
  ·by_cases hk5:kd=5
   ·subst hk5
    obtain⟨z0,hz0⟩:∃ z:ByteArray,⟨(dS imm).toArray⟩=z:=⟨_,rfl⟩
    have he:(⟨#[116,114,97,112]⟩:ByteArray)++z0=⟨(termS (FTerm.d ⟨5,args,.slice aa args.length ac,tgt,.slice ta tgt.length tc,imm⟩)).toArray⟩:=by
     rw[←hz0];exact bs_app [116,114,97,112] (dS imm)
    have hzz:¬ 9223372036854775807<4+z0.size:=by
     have h2:=dS_len imm (in64 HX.out.im)
     rw[←hz0,bs_size];omega
    rw[←he]
    have hd:=fun W=>rd_any imm W (in64 HX.out.im)
    rw[hz0]at hd
    have HD:=Lib.hid hd
    clear he hd hz0 h1 h5 hk1 hk2
    go_enter Tryz.func29,Tryz.ntmps29
    go_wp2_with fail
    refine (HD.out _).mono ?_
    rintro e w2 ⟨rfl,hs2⟩
    have HS2:=Lib.hid (HSW.out.trans hs2)
    clear hs2
    go_wp2
    go_ret
    exact⟨rfl,HS2.out⟩
   ·obtain⟨k,rfl⟩:∃ k:Nat,kd=(k:Int)+1:=⟨(kd-1).toNat,by omega⟩
    have hk4:k<4:=by omega
    obtain⟨y,hy⟩:∃ y,termNames.getD k ByteArray.empty=y:=⟨_,rfl⟩
    have HYK:=Lib.hid hy
    obtain⟨z0,hz0⟩:∃ z:ByteArray,⟨(allS args).toArray⟩=z:=⟨_,rfl⟩
    obtain⟨z1,hz1⟩:∃ z:ByteArray,⟨(allS tgt).toArray⟩=z:=⟨_,rfl⟩
    have hte:termS (FTerm.d ⟨(k:Int)+1,args,.slice aa args.length ac,tgt,.slice ta tgt.length tc,imm⟩)=y.data.toList++(allS args++allS tgt):=by
     unfold termS FTerm.d;dsimp only
     rw[if_neg (by omega),if_neg (by omega)]
     unfold termB
     rw[if_neg (by omega),show ((k:Int)+1-1).toNat=k from by omega,hy]
    have hlen:=HN.out
    rw[hte]at hlen
    simp only[List.length_append,bytes_len]at hlen
    have he:y++z0++z1=⟨(termS (FTerm.d ⟨(k:Int)+1,args,.slice aa args.length ac,tgt,.slice ta tgt.length tc,imm⟩)).toArray⟩:=by
     rw[hte]
     apply bytes_ext
     rw[bytes_app,bytes_app,←hz0,←hz1]
     simp
    have HE:=Lib.hid he
    have hs0:z0.size=(allS args).length:=by rw[←hz0];exact bs_size _
    have hs1:z1.size=(allS tgt).length:=by rw[←hz1];exact bs_size _
    have hf0:¬ 9223372036854775807<y.size+z0.size:=by omega
    have hf1:¬ 9223372036854775807<y.size+z0.size+z1.size:=by omega
    have hd0:=fun W (h:Since w W)=>rall_any (.slice aa args.length ac) args W (Nums.keep HA.out h) HX.out.ar (by omega)
    have hd1:=fun W (h:Since w W)=>rall_any (.slice ta tgt.length tc) tgt W (Nums.keep HT.out h) HX.out.tg (by omega)
    rw[hz0]at hd0
    rw[hz1]at hd1
    obtain⟨wb,hwb⟩:∃ wb,w.alloc (.cells #[.int .i64 ((k:Int)+1),.slice aa args.length ac,.slice ta tgt.length tc,.int .i32 imm] 54)=wb:=⟨_,rfl⟩
    have HQ:=HQ0
    rw[hwb]at HQ HSW
    have HD0:=Lib.hid (fun W (h:Since wb W)=>hd0 W (HSW.out.trans h))
    have HD1:=Lib.hid (fun W (h:Since wb W)=>hd1 W (HSW.out.trans h))
    have e1:((k:Int)+1==5)=false:=by simp;omega
    have HWB:=Lib.hid hwb
    clear hd0 hd1 hz0 hz1 he hlen hte hy h1 h5 hk5 hwb HQ0 hs0 hs1 hk1 hk2
    go_enter Tryz.func29,Tryz.ntmps29
    go_wp2_with fail
    rw[HWB.out]
    clear e1
    have hkk:k<5:=by omega
    refine wp_region_list_facts rfl (by decide +kernel) (by decide +kernel)
     [IsStrs 5 termNames,Is (.pointer (some ⟨w.heap.size,0,none⟩)),Is (.int .i64 ((k:Int)+1)),Is (.int .i64 k),AtStrs termNames k,Is (.string y),Is (.pointer (some ⟨w.heap.size,1,none⟩)),Is (.slice aa args.length ac),Is (.string z0),Is (.string (y++z0)),Is (.pointer (some ⟨w.heap.size,2,none⟩)),Is (.slice ta tgt.length tc),Is (.string z1),Is (.string (y++z0++z1)),Is (.string (y++z0++z1))]
     (by repeat (first | exact trivial | refine⟨Is.stable _,?_⟩ | refine⟨IsNums.stable _ _,?_⟩ | refine⟨IsRows.stable _ _,?_⟩ | refine⟨IsStrs.stable _ _,?_⟩ | refine⟨AtStrs.stable _ _,?_⟩)) ⟨?_,?_,?_,?_,?_,?_,?_,?_,?_,?_,?_,?_,?_,?_,?_,trivial⟩ ?_
    all_goals
     intro vs w9 hs hk
     simp only[putAll,Act.put,Knows,KnowsAll,nthF,Is,List.setIfInBounds_toArray,List.set_cons_zero,List.set_cons_succ,Nat.reduceAdd,List.length_cons,List.length_nil]at hk ⊢
     try simp only[hk]
    ·go_wp2_with fail
     refine (rterms_any w9).mono ?_
     rintro e w2 ⟨rfl,hn2,hb2⟩
     go_wp2
     exact⟨_,rfl,⟨_,rfl,hn2⟩,hb2⟩
    ·go_wp2
     exact⟨_,rfl,rfl,Since.refl _⟩
    ·have hq:=HQ.out.keep hs
     have hqc:w9.cell? ⟨w.heap.size,0,none⟩=some (.int .i64 ((k:Int)+1)):=hq.cell 0
     have hql:=hq.lt
     go_wp2
     exact⟨_,rfl,rfl,Since.refl _⟩
    ·go_wp2
     exact⟨_,rfl,(by first | rfl | (simp;done)),Since.refl _⟩
    ·obtain⟨⟨g,hg,hgs⟩,_⟩:=hk
     have hgl:=hgs.1
     rw[hg]
     clear hg
     go_wp2
     exact⟨_,rfl,⟨g,(by first | rfl | (simp;done)),hgs⟩,Since.refl _⟩
    ·obtain⟨⟨g,hg,hgs⟩,_⟩:=hk
     have hgl:=hgs.1
     have hgc:=hgs.2 k (by show k<5;omega)
     rw[Nat.zero_add,HYK.out]at hgc
     rw[hg]
     clear hg hgs
     go_wp2
     exact⟨_,rfl,rfl,Since.refl _⟩
    ·go_wp2
     exact⟨_,rfl,rfl,Since.refl _⟩
    ·have hq:=HQ.out.keep hs
     have hqc:w9.cell? ⟨w.heap.size,1,none⟩=some (.slice aa args.length ac):=hq.cell 1
     have hql:=hq.lt
     go_wp2
     exact⟨_,rfl,rfl,Since.refl _⟩
    ·go_wp2_with fail
     refine (HD0.out _ hs).mono ?_
     rintro e w2 ⟨rfl,hs2⟩
     go_wp2
     exact⟨_,rfl,rfl,hs2⟩
    ·go_wp2
     exact⟨_,rfl,rfl,Since.refl _⟩
    ·go_wp2
     exact⟨_,rfl,rfl,Since.refl _⟩
    ·have hq:=HQ.out.keep hs
     have hqc:w9.cell? ⟨w.heap.size,2,none⟩=some (.slice ta tgt.length tc):=hq.cell 2
     have hql:=hq.lt
     go_wp2
     exact⟨_,rfl,rfl,Since.refl _⟩
    ·go_wp2_with fail
     refine (HD1.out _ hs).mono ?_
     rintro e w2 ⟨rfl,hs2⟩
     go_wp2
     exact⟨_,rfl,rfl,hs2⟩
    ·go_wp2
     exact⟨_,rfl,rfl,Since.refl _⟩
    ·go_wp2
     exact⟨_,rfl,rfl,Since.refl _⟩
    ·rw[HE.out]
     have HS9:=Lib.hid (HSW.out.trans hs)
     clear hs hk
     go_wp2
     go_ret
     exact⟨rfl,HS9.out⟩
set_option maxHeartbeats 1000000 in
set_option maxRecDepth 100000 in
theorem rplace_any (g n:Nat) (l:List ByteArray) (hn:l.length=n) (hm:n≤1000) (s:ByteArray) (w:World) (h:StrsAt w g l):Calls Tryz.prog 88 #[.slice (some ⟨g,0,none⟩) n n,.string s] w (IntQ (Lib.idxOfS l s) w):=by
 subst hn
 obtain⟨y,hy⟩:∃ y,Lib.idxOfS l s=y:=⟨_,rfl⟩
 rw[hy]
 have HY:=Lib.hid hy
 have HN:=Lib.hid h
 have hl:=h.1
 clear hy h
 go_enter Tryz.func88,Tryz.ntmps88
 go_wp2_with fail
 go_loop [5] (fun i=>∃ k:Nat,k≤l.length∧i=.int .i64 k∧∀ j,j<k→l.getD j ByteArray.empty≠s) (fun i=>l.length-(intOf i).toNat)
 case atStart=>exact⟨0,Nat.zero_le _,rfl,fun j hj=>by omega⟩
 case round =>
  obtain⟨k,hk,rfl,hne⟩:=hrel
  have HNE:=Lib.hid hne
  clear hne
  by_cases hlt:k<l.length
  ·have hc:=HN.out.2 k hlt
   rw[Nat.zero_add]at hc
   obtain⟨z,hz⟩:∃ z,l.getD k ByteArray.empty=z:=⟨_,rfl⟩
   rw[hz]at hc
   have HZ:=Lib.hid hz
   clear hz
   by_cases he:z=s
   ·have hq:(z.toList==s.toList)=true:=(Lib.bytes_beq_iff z s).2 he
    have HI:=Lib.hid (show Lib.idxOfS l s=(k:Int) from by
     unfold Lib.idxOfS
     rw[Lib.idxFromS_hit s l k 0 hlt (HZ.out.trans he) HNE.out]
     omega)
    obtain rfl:(k:Int)=y:=HI.out.symm.trans HY.out
    clear he
    go_wp2
    go_ret
    exact⟨rfl,Below.refl _ _⟩
   ·have hq:(z.toList==s.toList)=false:=(Lib.bytes_beq_false_iff z s).2 he
    have HX:=Lib.hid he
    clear he
    go_wp2
    go_round
    case rel=>exact⟨k+1,by omega,by go_num,fun j hj=>by
     by_cases h:j<k
     ·exact HNE.out j h
     ·obtain rfl:j=k:=by omega
      rw[HZ.out];exact HX.out⟩
    case measure=>simp[intOf];omega
  ·obtain rfl:l.length=k:=by omega
   have HI:=Lib.hid (show Lib.idxOfS l s=-1 from by
    unfold Lib.idxOfS
    rw[Lib.idxFromS_miss s l 0 HNE.out])
   obtain rfl:(-1:Int)=y:=HI.out.symm.trans HY.out
   go_wp2
   go_ret
   exact⟨rfl,Below.refl _ _⟩
theorem rwords_any (op:Int) (w:World) (ho:In64 op):Calls Tryz.prog 115 #[.int .i64 op] w fun e w'=>e=.returned (.tuple #[.int .i64 (least op),.int .i64 (most op)])∧w'=w:=by
 unfold In64 at ho
 by_cases h1:op=1
 ·subst h1
  go_enter Tryz.func115,Tryz.ntmps115
  go_wp2
  go_ret2
  exact⟨rfl,rfl⟩
 ·by_cases h17:op=17
  ·subst h17
   go_enter Tryz.func115,Tryz.ntmps115
   go_wp2
   go_ret2
   exact⟨rfl,rfl⟩
  ·by_cases h18:op=18
   ·subst h18
    go_enter Tryz.func115,Tryz.ntmps115
    go_wp2
    go_ret2
    exact⟨rfl,rfl⟩
   ·have e1:least op=3∧most op=3:=by unfold least most;simp[h1,h17,h18]
    rw[e1.1,e1.2]
    clear e1
    go_enter Tryz.func115,Tryz.ntmps115
    go_wp2
    go_ret2
    exact⟨rfl,rfl⟩
theorem take_ahead (c:UInt8):∀ l:Bs,l.take (ahead c l).length=ahead c l
 | []=>rfl
 | x::r=>by
  have ih:=take_ahead c r
  unfold ahead at ih ⊢
  rw[List.takeWhile_cons]
  split
  ·rw[List.length_cons,List.take_succ_cons,ih]
  ·rfl
theorem ahead_cons_eq (c:UInt8) (r:Bs):ahead c (c::r)=[]:=by unfold ahead;simp
theorem ahead_cons_ne {c x:UInt8} (r:Bs) (h:x≠c):ahead c (x::r)=x::ahead c r:=by unfold ahead;rw[List.takeWhile_cons,if_pos (by simpa using h)]
theorem ahead_none {c : UInt8}:∀ {l : Bs},l.count c=0→ahead c l=l
 | [],_=>rfl
 | x::r,h=>by
  have hx:x≠c:=by intro e;subst e;simp at h
  rw[ahead_cons_ne r hx,ahead_none (by rw[List.count_cons_of_ne hx]at h;exact h)]
theorem ahead_lt {c : UInt8}:∀ {l : Bs},l.count c≠0→(ahead c l).length<l.length
 | [],h=>by simp at h
 | x::r,h=>by
  by_cases hx:x=c
  ·subst hx;rw[ahead_cons_eq];simp
  ·rw[ahead_cons_ne r hx]
   have:=ahead_lt (c:=c) (l:=r) (by rw[List.count_cons_of_ne hx]at h;exact h)
   simp only[List.length_cons];omega
theorem front_eq (s:ByteArray):s.extract 0 (ahead 58 s.data.toList).length=front s:=by
 apply bytes_ext
 rw[Lib.extract_data]
 unfold front
 simp[take_ahead]
theorem behind_eq (s:ByteArray):s.extract ((ahead 58 s.data.toList).length+1) s.size=behind s:=by
 apply bytes_ext
 rw[Lib.extract_data]
 unfold behind
 rw[←bytes_len,List.take_of_length_le (by simp)]
theorem front_none {s : ByteArray} (h:colons s=0):front s=s∧behind s=⟨#[]⟩:=by
 have h1:=ahead_none (l:=s.data.toList) (c:=58) h
 constructor
 ·unfold front;rw[h1]
 ·unfold behind;rw[h1];rw[List.drop_eq_nil_of_le (by omega)]
theorem byte_at (s:ByteArray) {j : Nat} (h:j<s.size):s.data.toList.drop j=s[j]::s.data.toList.drop (j+1):=by
 have h2:j<s.data.toList.length:=by rw[bytes_len];exact h
 rw[List.drop_eq_getElem_cons h2];rfl
def CutQ (s:ByteArray) (w:World) (e:Ending) (w':World):Prop:=e=.returned (.tuple #[.string (front s),.string (behind s),.int .i64 (colons s)])∧Since w w'
set_option maxHeartbeats 2000000 in
set_option maxRecDepth 100000 in
theorem rcut_any (s:ByteArray) (w:World) (hs:s.size≤1000000):Calls Tryz.prog 114 #[.string s] w (CutQ s w):=by
 go_enter Tryz.func114,Tryz.ntmps114
 go_wp2_with fail
 go_loop [5,6,7] (fun no ao io=>∃ (j n a:Nat),j≤s.size∧io=.int .i64 ((j:Int)-1)∧no=.int .i64 n∧ao=.int .i64 a∧n=(s.data.toList.drop j).count 58∧a=j+(ahead 58 (s.data.toList.drop j)).length) (fun _ _ io=>(intOf io+1).toNat)
 case atStart =>
  refine⟨s.size,0,s.size,Nat.le_refl _,rfl,rfl,rfl,?_,?_⟩
  ·rw[List.drop_eq_nil_of_le (by rw[bytes_len];exact Nat.le_refl _)];rfl
  ·rw[List.drop_eq_nil_of_le (by rw[bytes_len];exact Nat.le_refl _)];unfold ahead;simp
 case round =>
  obtain⟨j,n,a,hj,rfl,rfl,rfl,hn,ha⟩:=hrel
  have hnb:n≤1000000:=by have:=List.count_le_length (a:=(58:UInt8)) (l:=s.data.toList.drop j);rw[←hn,List.length_drop,bytes_len]at this;omega
  have hab:a≤1000000:=by
   have:(ahead 58 (s.data.toList.drop j)).length≤(s.data.toList.drop j).length:=by unfold ahead;exact (List.takeWhile_sublist _).length_le
   rw[List.length_drop,bytes_len]at this;omega
  have HN:=Lib.hid hn
  have HA:=Lib.hid ha
  clear hn ha
  by_cases hlt:0<j
  ·obtain⟨i,rfl⟩:∃ i,j=i+1:=⟨j-1,by omega⟩
   have hi:i<s.size:=by omega
   have HD:=Lib.hid (byte_at s hi)
   by_cases hc:s[i]=58
   ·have hq:((s[i].toNat:Int)==58)=true:=by rw[hc];rfl
    have HN1:=Lib.hid (show n+1=(s.data.toList.drop i).count 58 from by rw[HN.out,HD.out,hc,List.count_cons_self])
    have HA1:=Lib.hid (show i=i+(ahead 58 (s.data.toList.drop i)).length from by rw[HD.out,hc,ahead_cons_eq];rfl)
    clear hc
    go_wp2
    go_round
    case rel=>exact⟨i,n+1,i,by omega,by go_num,by go_num,by go_num,HN1.out,HA1.out⟩
    case measure=>simp[intOf]
   ·have hq:((s[i].toNat:Int)==58)=false:=by
     rw[beq_eq_false_iff_ne];intro e
     exact hc (UInt8.toNat_inj.1 (by show s[i].toNat=58;omega))
    have HN1:=Lib.hid (show n=(s.data.toList.drop i).count 58 from by rw[HN.out,HD.out,List.count_cons_of_ne hc])
    have HA1:=Lib.hid (show a=i+(ahead 58 (s.data.toList.drop i)).length from by rw[HA.out,HD.out,ahead_cons_ne _ hc,List.length_cons];omega)
    clear hc
    go_wp2
    go_round
    case rel=>exact⟨i,n,a,by omega,by go_num,rfl,rfl,HN1.out,HA1.out⟩
    case measure=>simp[intOf]
  ·obtain rfl:j=0:=by omega
   have hN:=HN.out
   have hA:=HA.out
   rw[List.drop_zero]at hN hA
   rw[Nat.zero_add]at hA
   by_cases h0:n=0
   ·subst h0
    have HF:=Lib.hid (front_none (s:=s) hN.symm)
    have HC:=Lib.hid (show colons s=0 from hN.symm)
    clear hN hA
    go_wp2
    go_ret3
    exact⟨by rw[HF.out.1,HF.out.2,HC.out];rfl,Since.refl _⟩
   ·have hfr:=front_eq s
    have hbe:=behind_eq s
    rw[←hA]at hfr hbe
    have hal:a<s.size:=by rw[hA,←bytes_len];exact ahead_lt (by rw[←hN];exact h0)
    have h1:((n:Int)==0)=false:=by simpa using h0
    have HC:=Lib.hid (show colons s=n from hN.symm)
    clear hN hA h0
    go_wp2_with fail
    refine wp_region_list_facts rfl (by decide +kernel) (by decide +kernel)
     [Is (.string s),Is (.int .i64 (a:Nat)),Is (.string (front s)),Is (.string s),Is (.int .i64 (a:Nat)),Is (.int .i64 ((a:Int)+1)),Is (.string (behind s)),Is (.int .i64 (n:Nat)),Is (.string (front s)),Is (.string (behind s)),Is (.int .i64 (n:Nat))]
     (by repeat (first | exact trivial | refine⟨Is.stable _,?_⟩ | refine⟨IsNums.stable _ _,?_⟩ | refine⟨IsRows.stable _ _,?_⟩)) ⟨?_,?_,?_,?_,?_,?_,?_,?_,?_,?_,?_,trivial⟩ ?_
    all_goals
     intro vs w9 hs hk
     simp only[putAll,Act.put,Knows,KnowsAll,nthF,Is,List.setIfInBounds_toArray,List.set_cons_zero,List.set_cons_succ,Nat.reduceAdd,List.length_cons,List.length_nil]at hk ⊢
     try simp only[hk]
    ·go_wp2
     exact⟨_,rfl,rfl,Since.refl _⟩
    ·go_wp2
     exact⟨_,rfl,rfl,Since.refl _⟩
    ·go_wp2
     exact⟨_,rfl,rfl,Since.refl _⟩
    ·go_wp2
     exact⟨_,rfl,rfl,Since.refl _⟩
    ·go_wp2
     exact⟨_,rfl,rfl,Since.refl _⟩
    ·go_wp2
     exact⟨_,rfl,rfl,Since.refl _⟩
    ·go_wp2
     exact⟨_,rfl,rfl,Since.refl _⟩
    ·go_wp2
     exact⟨_,rfl,rfl,Since.refl _⟩
    ·go_wp2
     exact⟨_,rfl,rfl,Since.refl _⟩
    ·go_wp2
     exact⟨_,rfl,rfl,Since.refl _⟩
    ·go_wp2
     exact⟨_,rfl,rfl,Since.refl _⟩
    ·go_wp2
     go_ret3
     exact⟨by rw[HC.out];rfl,hs⟩
end Go.Proofs.YtmhojfpidedjeaaGreatDoor
