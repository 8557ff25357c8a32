/- jacquardlaw25.TextPrints tells of any numbers that it is true. -/
import Derived.Test.YtmhojfpidedjeaaGreatDoorTq21
import Derived.Test.YtmhojfpidedjeaaGreatDoorTq22
import Derived.Test.YtmhojfpidedjeaaGreatDoorTq28
import Derived.Test.YtmhojfpidedjeaaGreatDoorTq42
namespace Go.Proofs.YtmhojfpidedjeaaGreatDoor
open Go.RowKit
set_option linter.unusedVariables false
theorem TnF.of {f : FnV} (h:MadeF f):TnF 0 f:=
 ⟨made_r h,h.blocks,fun b hb=>⟨(h.phis b hb).1,fun p hp=>((h.phis b hb).2 p hp).2.1⟩,fun b hb i hi=>by have:=(h.ins b hb i hi).2.2.2.2;omega,fun b hb=>by have:=(h.terms b hb).2.2.2;omega,h.total⟩
set_option maxHeartbeats 8000000 in
set_option maxRecDepth 100000 in
theorem walk_prints (lv:Value) (l:List Int) (q0 q1 q2 q3 q4 q5:Int) (w:World) (hl:Ints w lv l) (hlq:∀ q,lv.ownBlock=some q→q<w.heap.size) (hL:LaidT w):Calls Tryz.prog 8 #[lv,.agg #[.int .i64 q0,.int .i64 q1,.int .i64 q2,.int .i64 q3,.int .i64 q4,.int .i64 q5]] w fun e w'=>e=.returned (.bool true)∧Since w w':=by
 have HLV:=Lib.hid hl
 have HLQ:=Lib.hid hlq
 have HL0:=Lib.hid hL
 clear hl hlq hL
 go_enter Tryz.func8,Tryz.ntmps8
 go_upto_region 1 with fail
 obtain⟨qq,hqq⟩:∃ q,w.heap.size=q:=⟨_,rfl⟩
 obtain⟨w1,hw1⟩:∃ x,w.alloc (.cells #[.int .i64 q0,.int .i64 q1,.int .i64 q2,.int .i64 q3,.int .i64 q4,.int .i64 q5] 47)=x:=⟨_,rfl⟩
 have HS1:=Lib.hid (show Since w w1 from by rw[←hw1];exact (Since.refl w).alloc _)
 have HBQ:=Lib.hid (show HeapIs w1 qq #[.int .i64 q0,.int .i64 q1,.int .i64 q2,.int .i64 q3,.int .i64 q4,.int .i64 q5] 47 from by rw[←hw1,←hqq];exact HeapIs.new w _ _)
 rw[hw1]
 try rw[hqq]
 clear hw1 hqq
 go_wp2_with fail
 refine (shown25_any w1 (HL0.out.keep HS1.out)).mono ?_
 rintro e w2 ⟨rfl,hs2⟩
 have HS12:=Lib.hid hs2
 have HS2:=Lib.hid (HS1.out.trans hs2)
 clear hs2
 go_wp2_with fail
 refine (made25_any lv l w2 (HLV.out.keep HS2.out) (fun q hq=>Nat.lt_of_lt_of_le (HLQ.out q hq) HS2.out.size)).mono ?_
 rintro e w3 ⟨f,rfl,hf,hm,hs3⟩
 obtain⟨p1,b1,a1,n1,c1,rfl⟩:=fv_shape f w3 hf
 have HGo1:=Lib.hid hf
 have HT1:=Lib.hid (TnF.of hm)
 have HS13:=Lib.hid (HS12.out.trans hs3)
 clear hf hm hs3
 unfold fv
 dsimp only
 go_upto_region 3 with fail
 obtain⟨x1,hq9⟩:∃ q,w3.heap.size=q:=⟨_,rfl⟩
 obtain⟨w4,hw9⟩:∃ x,w3.alloc (.cells #[.int .i64 p1,.slice a1 n1 c1] 24)=x:=⟨_,rfl⟩
 have HSB1:=Lib.hid (show Since w3 w4 from by rw[←hw9];exact (Since.refl w3).alloc _)
 have HBX1:=Lib.hid (show HeapIs w4 x1 #[.int .i64 p1,.slice a1 n1 c1] 24 from by rw[←hw9,←hq9];exact HeapIs.new w3 _ _)
 rw[hw9]
 try rw[hq9]
 clear hw9 hq9
 have HG1:=Lib.hid (HGo1.out.keep HSB1.out)
 have HS14:=Lib.hid (HS13.out.trans HSB1.out)
 have hb:=HBX1.out
 have z0:=hb.cell 0
 have z1:=hb.cell 1
 have zl:=hb.lt
 have hq:=HBQ.out.keep HS14.out
 have q0':=hq.cell 0
 have q1':=hq.cell 1
 have q2':=hq.cell 2
 have ql:=hq.lt
 clear hb hq
 go_wp2_with fail
 refine (turned3_any 0 (by decide) ⟨p1,b1,.slice a1 n1 c1⟩ _ _ _ w4 HG1.out HT1.out).mono ?_
 rintro e w5 ⟨g,rfl,hg,ht,hsg⟩
 clear z0 z1 zl q0' q1' q2' ql
 obtain⟨p2,b2,a2,n2,c2,rfl⟩:=fv_shape g w5 hg
 have HGo2:=Lib.hid hg
 have HT2:=Lib.hid ht
 have HSG2:=Lib.hid hsg
 clear hg ht hsg
 unfold fv
 dsimp only
 go_upto_region 4 with fail
 obtain⟨x2,hq9⟩:∃ q,w5.heap.size=q:=⟨_,rfl⟩
 obtain⟨w6,hw9⟩:∃ x,w5.alloc (.cells #[.int .i64 p2,.slice a2 n2 c2] 24)=x:=⟨_,rfl⟩
 have HSB2:=Lib.hid (show Since w5 w6 from by rw[←hw9];exact (Since.refl w5).alloc _)
 have HBX2:=Lib.hid (show HeapIs w6 x2 #[.int .i64 p2,.slice a2 n2 c2] 24 from by rw[←hw9,←hq9];exact HeapIs.new w5 _ _)
 rw[hw9]
 try rw[hq9]
 clear hw9 hq9
 have HG2:=Lib.hid (HGo2.out.keep HSB2.out)
 have HS46:=Lib.hid (HSG2.out.trans HSB2.out)
 have HS16:=Lib.hid (HS14.out.trans HS46.out)
 have hb:=HBX2.out
 have z0:=hb.cell 0
 have z1:=hb.cell 1
 have zl:=hb.lt
 have hq:=HBQ.out.keep HS16.out
 have q0':=hq.cell 3
 have q1':=hq.cell 4
 have q2':=hq.cell 5
 have ql:=hq.lt
 clear hb hq
 go_wp2_with fail
 refine (turned3_any 1 (by decide) ⟨p2,b2,.slice a2 n2 c2⟩ _ _ _ w6 HG2.out HT2.out).mono ?_
 rintro e w8 ⟨g,rfl,hg,ht,hsg⟩
 clear z0 z1 zl q0' q1' q2' ql
 obtain⟨p3,b3,a3,n3,c3,rfl⟩:=fv_shape g w8 hg
 have HGo3:=Lib.hid hg
 have HT3:=Lib.hid ht
 have HSG3:=Lib.hid hsg
 clear hg ht hsg
 unfold fv
 dsimp only
 go_upto_region 5 with fail
 obtain⟨x3,hq9⟩:∃ q,w8.heap.size=q:=⟨_,rfl⟩
 obtain⟨w9,hw9⟩:∃ x,w8.alloc (.cells #[.int .i64 p3,.slice a3 n3 c3] 24)=x:=⟨_,rfl⟩
 have HSB3:=Lib.hid (show Since w8 w9 from by rw[←hw9];exact (Since.refl w8).alloc _)
 have HBX3:=Lib.hid (show HeapIs w9 x3 #[.int .i64 p3,.slice a3 n3 c3] 24 from by rw[←hw9,←hq9];exact HeapIs.new w8 _ _)
 rw[hw9]
 try rw[hq9]
 clear hw9 hq9
 have HS69:=Lib.hid (HSG3.out.trans HSB3.out)
 have HS6:=Lib.hid (HS1.out.trans (HS16.out.trans HS69.out))
 have HL6:=Lib.hid (HL0.out.keep HS6.out)
 have HB1:=Lib.hid (HBX1.out.keep (HS46.out.trans HS69.out))
 have HB2:=Lib.hid (HBX2.out.keep HS69.out)
 have HB3:=Lib.hid HBX3.out
 have HG1:=Lib.hid (HG1.out.keep (HS46.out.trans HS69.out))
 have HG2:=Lib.hid (HG2.out.keep HS69.out)
 have HG3:=Lib.hid (HGo3.out.keep HSB3.out)
 have HR1:=Lib.hid HT1.out.r
 have HR2:=Lib.hid HT2.out.r
 have HR3:=Lib.hid HT3.out.r
 have HN1:=Lib.hid (HT1.out.len (by decide))
 have HN2:=Lib.hid (HT2.out.len (by decide))
 have HN3:=Lib.hid (HT3.out.len (by decide))
 clear HLV HLQ HL0 HS1 HS12 HS2 HS13 HGo1 HGo2 HGo3 HT1 HT2 HT3 HSB1 HSB2 HSB3 HSG2 HSG3 HBX1 HBX2 HBX3 HS14 HS16 HBQ
 refine wp_region_list_facts rfl (by decide +kernel) (by decide +kernel)
  [Is (.bool true),Is (.bool true),Is (.agg #[.int .i64 p1,.slice a1 n1 c1]),Is (.string ⟨(funcS (FnV.d ⟨p1,b1,.slice a1 n1 c1⟩)).toArray⟩),Is (.agg #[.int .i64 p1,.slice a1 n1 c1]),Is (.string ⟨(funcS (FnV.d ⟨p1,b1,.slice a1 n1 c1⟩)).toArray⟩),Is (.bool true),Is (.bool true),Is (.bool true),Is (.agg #[.int .i64 p2,.slice a2 n2 c2]),Is (.string ⟨(funcS (FnV.d ⟨p2,b2,.slice a2 n2 c2⟩)).toArray⟩),Is (.agg #[.int .i64 p2,.slice a2 n2 c2]),Is (.string ⟨(funcS (FnV.d ⟨p2,b2,.slice a2 n2 c2⟩)).toArray⟩),Is (.bool true),Is (.bool true),Is (.bool true),Is (.agg #[.int .i64 p3,.slice a3 n3 c3]),Is (.string ⟨(funcS (FnV.d ⟨p3,b3,.slice a3 n3 c3⟩)).toArray⟩),Is (.agg #[.int .i64 p3,.slice a3 n3 c3]),Is (.string ⟨(funcS (FnV.d ⟨p3,b3,.slice a3 n3 c3⟩)).toArray⟩),Is (.bool true),Is (.bool true),Is (.bool true)]
  (by repeat (first | exact trivial | refine⟨Is.stable _,?_⟩ | refine⟨IsNums.stable _ _,?_⟩ | refine⟨IsRows.stable _ _,?_⟩)) ⟨?_,?_,?_,?_,?_,?_,?_,?_,?_,?_,?_,?_,?_,?_,?_,?_,?_,?_,?_,?_,?_,?_,?_,trivial⟩ ?_
 all_goals
  intro vs w7 hs hk
  simp only[putAll,Act.put,Knows,KnowsAll,nthF,Is,List.setIfInBounds_toArray,List.set_cons_zero,List.set_cons_succ,Nat.reduceAdd,List.length_cons,List.length_nil]at hk ⊢
  try simp only[hk]
 ·go_wp2
  exact⟨_,rfl,rfl,Since.refl _⟩
 ·go_wp2
  exact⟨_,rfl,rfl,Since.refl _⟩
 ·have hb:=HB1.out.keep hs
  have z0:=hb.cell 0
  have z1:=hb.cell 1
  have zl:=hb.lt
  clear hb
  go_wp2
  exact⟨_,rfl,rfl,Since.refl _⟩
 ·go_wp2_with fail
  refine (text_func ⟨p1,b1,.slice a1 n1 c1⟩ w7 (HG1.out.keep hs) HR1.out (HL6.out.keep hs) HN1.out).mono ?_
  rintro e wN ⟨rfl,hsN⟩
  go_wp2
  exact⟨_,rfl,rfl,hsN⟩
 ·have hb:=HB1.out.keep hs
  have z0:=hb.cell 0
  have z1:=hb.cell 1
  have zl:=hb.lt
  clear hb
  go_wp2
  exact⟨_,rfl,rfl,Since.refl _⟩
 ·go_wp2_with fail
  refine (rfunc25_any ⟨p1,b1,.slice a1 n1 c1⟩ w7 (HG1.out.keep hs) HR1.out HN1.out).mono ?_
  rintro e wN ⟨rfl,hsN⟩
  go_wp2
  exact⟨_,rfl,rfl,hsN⟩
 ·go_wp2
  exact⟨_,rfl,rfl,Since.refl _⟩
 ·go_wp2
  exact⟨_,rfl,rfl,Since.refl _⟩
 ·go_wp2
  exact⟨_,rfl,rfl,Since.refl _⟩
 ·have hb:=HB2.out.keep hs
  have z0:=hb.cell 0
  have z1:=hb.cell 1
  have zl:=hb.lt
  clear hb
  go_wp2
  exact⟨_,rfl,rfl,Since.refl _⟩
 ·go_wp2_with fail
  refine (text_func ⟨p2,b2,.slice a2 n2 c2⟩ w7 (HG2.out.keep hs) HR2.out (HL6.out.keep hs) HN2.out).mono ?_
  rintro e wN ⟨rfl,hsN⟩
  go_wp2
  exact⟨_,rfl,rfl,hsN⟩
 ·have hb:=HB2.out.keep hs
  have z0:=hb.cell 0
  have z1:=hb.cell 1
  have zl:=hb.lt
  clear hb
  go_wp2
  exact⟨_,rfl,rfl,Since.refl _⟩
 ·go_wp2_with fail
  refine (rfunc25_any ⟨p2,b2,.slice a2 n2 c2⟩ w7 (HG2.out.keep hs) HR2.out HN2.out).mono ?_
  rintro e wN ⟨rfl,hsN⟩
  go_wp2
  exact⟨_,rfl,rfl,hsN⟩
 ·go_wp2
  exact⟨_,rfl,rfl,Since.refl _⟩
 ·go_wp2
  exact⟨_,rfl,rfl,Since.refl _⟩
 ·go_wp2
  exact⟨_,rfl,rfl,Since.refl _⟩
 ·have hb:=HB3.out.keep hs
  have z0:=hb.cell 0
  have z1:=hb.cell 1
  have zl:=hb.lt
  clear hb
  go_wp2
  exact⟨_,rfl,rfl,Since.refl _⟩
 ·go_wp2_with fail
  refine (text_func ⟨p3,b3,.slice a3 n3 c3⟩ w7 (HG3.out.keep hs) HR3.out (HL6.out.keep hs) HN3.out).mono ?_
  rintro e wN ⟨rfl,hsN⟩
  go_wp2
  exact⟨_,rfl,rfl,hsN⟩
 ·have hb:=HB3.out.keep hs
  have z0:=hb.cell 0
  have z1:=hb.cell 1
  have zl:=hb.lt
  clear hb
  go_wp2
  exact⟨_,rfl,rfl,Since.refl _⟩
 ·go_wp2_with fail
  refine (rfunc25_any ⟨p3,b3,.slice a3 n3 c3⟩ w7 (HG3.out.keep hs) HR3.out HN3.out).mono ?_
  rintro e wN ⟨rfl,hsN⟩
  go_wp2
  exact⟨_,rfl,rfl,hsN⟩
 ·go_wp2
  exact⟨_,rfl,rfl,Since.refl _⟩
 ·go_wp2
  exact⟨_,rfl,rfl,Since.refl _⟩
 ·go_wp2
  exact⟨_,rfl,rfl,Since.refl _⟩
 ·have HS7:=Lib.hid (HS6.out.trans hs)
  clear hk hs
  go_wp2
  go_ret
  exact⟨rfl,HS7.out⟩
end Go.Proofs.YtmhojfpidedjeaaGreatDoor
