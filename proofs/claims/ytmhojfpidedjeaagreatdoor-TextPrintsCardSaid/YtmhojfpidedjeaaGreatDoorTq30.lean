/- MkMemory -/
import Derived.Test.YtmhojfpidedjeaaGreatDoorTq29
namespace Go.Proofs.YtmhojfpidedjeaaGreatDoor
open Go.RowKit
set_option linter.unusedVariables false
section
variable {C : Nat→Prop} {mb:Nat} {bv sv:Value} {l : List Int} {m m':MkSt} {w w':World}
set_option maxHeartbeats 1000000 in
set_option maxRecDepth 100000 in
theorem mk_memory_ld (h:MkOk C mb bv sv l m w) (hs:Sm 30 m) (b:Nat) (hb:b<m.bks.length) :
  Calls Tryz.prog 98 #[.pointer (some ⟨mb,0,none⟩),.int .i64 b,.bool false] w (MkQ C mb bv sv l w m 17 6 7 UnitQ):=by
 obtain⟨m0,hm0⟩:∃ x,x=m:=⟨_,rfl⟩
 subst hm0
 have H0:=Lib.hid h
 have MV0:=Lib.hid (Mv.refl mb bv w m0)
 have SM0:=Lib.hid hs
 have HB:=Lib.hid hb
 have nx0:=h.next0
 clear h hs
 go_enter Tryz.func98,Tryz.ntmps98
 go_wp2_with fail
 refine (mk_take H0.out 9 (by decide) (by have:=SM0.out.1;omega)).mono ?_
 rintro e w1 ⟨m1,⟨t,rfl,⟨ht0,ht1⟩,hm1⟩,h1,mv1⟩
 have H1:=Lib.hid h1
 have MV1:=Lib.hid (MV0.out.trans mv1)
 have SM1:=Lib.hid (SM0.out.mv mv1 (by decide) (by decide) (by decide))
 have nx1:m0.next≤m1.next:=by rw[hm1];exact Int.le_refl _
 clear hm1
 clear h1 mv1
 go_wp2_with fail
 refine (mk_constant H1.out (SM1.out.mono (by decide)) b (by rw[MV1.out.len];exact HB.out) (t) (by unfold In32;omega)).mono ?_
 rintro e w2 ⟨m2,⟨a,rfl,ha0,ha1⟩,h2,mv2⟩
 have H2:=Lib.hid h2
 have MV2:=Lib.hid (MV1.out.trans mv2)
 have SM2:=Lib.hid (SM1.out.mv mv2 (by decide) (by decide) (by decide))
 have nx2:=mv2.next.1
 clear h2 mv2
 go_wp2_with fail
 refine (mk_take H2.out 3 (by decide) (by have:=SM2.out.1;omega)).mono ?_
 rintro e w3 ⟨m3,⟨q,rfl,⟨hq0,hq1⟩,hm3⟩,h3,mv3⟩
 have H3:=Lib.hid h3
 have MV3:=Lib.hid (MV2.out.trans mv3)
 have SM3:=Lib.hid (SM2.out.mv mv3 (by decide) (by decide) (by decide))
 have nx3:m2.next≤m3.next:=by rw[hm3];exact Int.le_refl _
 clear hm3
 clear h3 mv3
 by_cases hqq:q=0
 ·subst hqq
  go_wp2_with fail
  refine (mk_some H3.out (SM3.out.mono (by decide)) b (by rw[MV3.out.len];exact HB.out)).mono ?_
  rintro e w4 ⟨m4,⟨c,rfl,hc0,hc1⟩,h4,mv4⟩
  have H4:=Lib.hid h4
  have MV4:=Lib.hid (MV3.out.trans mv4)
  have SM4:=Lib.hid (SM3.out.mv mv4 (by decide) (by decide) (by decide))
  have nx4:=mv4.next.1
  clear h4 mv4
  go_wp2_with fail
  refine (mk_constant H4.out (SM4.out.mono (by decide)) b (by rw[MV4.out.len];exact HB.out) (7) (by unfold In32;decide)).mono ?_
  rintro e w5 ⟨m5,⟨s7,rfl,hs70,hs71⟩,h5,mv5⟩
  have H5:=Lib.hid h5
  have MV5:=Lib.hid (MV4.out.trans mv5)
  have SM5:=Lib.hid (SM4.out.mv mv5 (by decide) (by decide) (by decide))
  have nx5:=mv5.next.1
  clear h5 mv5
  go_wp2_with fail
  refine (mk_fresh H5.out ⟨by omega,by have:=SM5.out.2.1;omega⟩).mono ?_
  rintro e w6 ⟨m6,⟨rfl,hm6⟩,h6,mv6⟩
  have H6:=Lib.hid h6
  have MV6:=Lib.hid (MV5.out.trans mv6)
  have SM6:=Lib.hid (SM5.out.mv mv6 (by decide) (by decide) (by decide))
  have nx6:m5.next+1≤m6.next:=by rw[hm6];exact Int.le_refl _
  clear hm6
  clear h6 mv6
  go_wp2_with fail
  have AD6:=Lib.hid (show Ints _ _ _∧Stays _ _ _ from H6.out.newInts [c,s7] #[.int .i64 (c),.int .i64 (s7)] rfl 2 rfl (by show 2≤maxLen;decide) 3)
  refine (Calls.since_mk ((Since.refl _).alloc _) (mk_add (H6.out.keep ((Since.refl _).alloc _)) (SM6.out.mono (by decide)) b (by rw[MV6.out.len];exact HB.out) ⟨5,m5.next,0,[c,s7],_,0⟩ AD6.out (good_two (by decide) ⟨by omega,by omega⟩ ⟨by omega,by omega⟩ ⟨by omega,by omega⟩))).mono ?_
  rintro e w7 ⟨m7,⟨rfl,hm7⟩,h7,mv7⟩
  have H7:=Lib.hid h7
  have MV7:=Lib.hid (MV6.out.trans mv7)
  have SM7:=Lib.hid (SM6.out.mv mv7 (by decide) (by decide) (by decide))
  have nx7:m6.next≤m7.next:=by rw[hm7];exact Int.le_refl _
  clear hm7
  clear h7 mv7
  go_wp2_with fail
  refine (mk_fresh H7.out ⟨by omega,by have:=SM7.out.2.1;omega⟩).mono ?_
  rintro e w8 ⟨m8,⟨rfl,hm8⟩,h8,mv8⟩
  have H8:=Lib.hid h8
  have MV8:=Lib.hid (MV7.out.trans mv8)
  have SM8:=Lib.hid (SM7.out.mv mv8 (by decide) (by decide) (by decide))
  have nx8:m7.next+1≤m8.next:=by rw[hm8];exact Int.le_refl _
  clear hm8
  clear h8 mv8
  go_wp2_with fail
  have AD8:=Lib.hid (show Ints _ _ _∧Stays _ _ _ from H8.out.newInts [a,m5.next] #[.int .i64 (a),.int .i64 (m5.next)] rfl 2 rfl (by show 2≤maxLen;decide) 3)
  refine (Calls.since_mk ((Since.refl _).alloc _) (mk_add (H8.out.keep ((Since.refl _).alloc _)) (SM8.out.mono (by decide)) b (by rw[MV8.out.len];exact HB.out) ⟨2,m7.next,0,[a,m5.next],_,0⟩ AD8.out (good_two (by decide) ⟨by omega,by omega⟩ ⟨by omega,by omega⟩ ⟨by omega,by omega⟩))).mono ?_
  rintro e w9 ⟨m9,⟨rfl,hm9⟩,h9,mv9⟩
  have H9:=Lib.hid h9
  have MV9:=Lib.hid (MV8.out.trans mv9)
  have SM9:=Lib.hid (SM8.out.mv mv9 (by decide) (by decide) (by decide))
  have nx9:m8.next≤m9.next:=by rw[hm9];exact Int.le_refl _
  clear hm9
  clear h9 mv9
  go_wp2_with fail
  refine (mk_take H9.out 4 (by decide) (by have:=SM9.out.1;omega)).mono ?_
  rintro e w10 ⟨m10,⟨i,rfl,⟨hi0,hi1⟩,hm10⟩,h10,mv10⟩
  have H10:=Lib.hid h10
  have MV10:=Lib.hid (MV9.out.trans mv10)
  have SM10:=Lib.hid (SM9.out.mv mv10 (by decide) (by decide) (by decide))
  have nx10:m9.next≤m10.next:=by rw[hm10];exact Int.le_refl _
  clear hm10
  clear h10 mv10
  go_wp2_with fail
  refine (mk_take H10.out 12 (by decide) (by have:=SM10.out.1;omega)).mono ?_
  rintro e w11 ⟨m11,⟨j,rfl,⟨hj0,hj1⟩,hm11⟩,h11,mv11⟩
  have H11:=Lib.hid h11
  have MV11:=Lib.hid (MV10.out.trans mv11)
  have SM11:=Lib.hid (SM10.out.mv mv11 (by decide) (by decide) (by decide))
  have nx11:m10.next≤m11.next:=by rw[hm11];exact Int.le_refl _
  clear hm11
  clear h11 mv11
  by_cases hqj:j=0
  ·subst hqj
   go_wp2_with fail
   refine (mk_word H11.out (by have:=SM11.out.1;omega)).mono ?_
   rintro e w12 ⟨m12,⟨k,rfl,hk,hm12⟩,h12,mv12⟩
   have H12:=Lib.hid h12
   have MV12:=Lib.hid (MV11.out.trans mv12)
   have SM12:=Lib.hid (SM11.out.mv mv12 (by decide) (by decide) (by decide))
   have nx12:m11.next≤m12.next:=by rw[hm12];exact Int.le_refl _
   clear hm12
   clear h12 mv12
   go_wp2_with fail
   refine (mk_fresh H12.out ⟨by omega,by have:=SM12.out.2.1;omega⟩).mono ?_
   rintro e w13 ⟨m13,⟨rfl,hm13⟩,h13,mv13⟩
   have H13:=Lib.hid h13
   have MV13:=Lib.hid (MV12.out.trans mv13)
   have SM13:=Lib.hid (SM12.out.mv mv13 (by decide) (by decide) (by decide))
   have nx13:m12.next+1≤m13.next:=by rw[hm13];exact Int.le_refl _
   clear hm13
   clear h13 mv13
   go_wp2_with fail
   have AD13:=Lib.hid (show Ints _ _ _∧Stays _ _ _ from H13.out.newInts [m7.next] #[.int .i64 (m7.next)] rfl 1 rfl (by show 1≤maxLen;decide) 3)
   refine (Calls.since_mk ((Since.refl _).alloc _) (mk_add (H13.out.keep ((Since.refl _).alloc _)) (SM13.out.mono (by decide)) b (by rw[MV13.out.len];exact HB.out) ⟨15,m12.next,0,[m7.next],_,k⟩ AD13.out (good_load hk ⟨by omega,by omega⟩ ⟨by omega,by omega⟩))).mono ?_
   rintro e w14 ⟨m14,⟨rfl,hm14⟩,h14,mv14⟩
   have H14:=Lib.hid h14
   have MV14:=Lib.hid (MV13.out.trans mv14)
   have SM14:=Lib.hid (SM13.out.mv mv14 (by decide) (by decide) (by decide))
   have nx14:m13.next≤m14.next:=by rw[hm14];exact Int.le_refl _
   clear hm14
   clear h14 mv14
   go_wp2_with fail
   go_end0
   refine⟨_,?_,H14.out,MV14.out.more (by decide) (by decide) (by decide)⟩
   exact rfl
  ·have hrj:(j==0)=false:=by simpa using hqj
   clear hqj
   go_wp2_with fail
   refine (mk_fresh H11.out ⟨by omega,by have:=SM11.out.2.1;omega⟩).mono ?_
   rintro e w12 ⟨m12,⟨rfl,hm12⟩,h12,mv12⟩
   have H12:=Lib.hid h12
   have MV12:=Lib.hid (MV11.out.trans mv12)
   have SM12:=Lib.hid (SM11.out.mv mv12 (by decide) (by decide) (by decide))
   have nx12:m11.next+1≤m12.next:=by rw[hm12];exact Int.le_refl _
   clear hm12
   clear h12 mv12
   go_wp2_with fail
   have AD12:=Lib.hid (show Ints _ _ _∧Stays _ _ _ from H12.out.newInts [m7.next] #[.int .i64 (m7.next)] rfl 1 rfl (by show 1≤maxLen;decide) 3)
   refine (Calls.since_mk ((Since.refl _).alloc _) (mk_add (H12.out.keep ((Since.refl _).alloc _)) (SM12.out.mono (by decide)) b (by rw[MV12.out.len];exact HB.out) ⟨15,m11.next,0,[m7.next],_,i⟩ AD12.out (good_load (by unfold In32;omega) ⟨by omega,by omega⟩ ⟨by omega,by omega⟩))).mono ?_
   rintro e w13 ⟨m13,⟨rfl,hm13⟩,h13,mv13⟩
   have H13:=Lib.hid h13
   have MV13:=Lib.hid (MV12.out.trans mv13)
   have SM13:=Lib.hid (SM12.out.mv mv13 (by decide) (by decide) (by decide))
   have nx13:m12.next≤m13.next:=by rw[hm13];exact Int.le_refl _
   clear hm13
   clear h13 mv13
   go_wp2_with fail
   go_end0
   refine⟨_,?_,H13.out,MV13.out.more (by decide) (by decide) (by decide)⟩
   exact rfl
 ·have hrq:(q==0)=false:=by simpa using hqq
  clear hqq
  go_wp2_with fail
  refine (mk_take H3.out 4 (by decide) (by have:=SM3.out.1;omega)).mono ?_
  rintro e w4 ⟨m4,⟨i,rfl,⟨hi0,hi1⟩,hm4⟩,h4,mv4⟩
  have H4:=Lib.hid h4
  have MV4:=Lib.hid (MV3.out.trans mv4)
  have SM4:=Lib.hid (SM3.out.mv mv4 (by decide) (by decide) (by decide))
  have nx4:m3.next≤m4.next:=by rw[hm4];exact Int.le_refl _
  clear hm4
  clear h4 mv4
  go_wp2_with fail
  refine (mk_take H4.out 12 (by decide) (by have:=SM4.out.1;omega)).mono ?_
  rintro e w5 ⟨m5,⟨j,rfl,⟨hj0,hj1⟩,hm5⟩,h5,mv5⟩
  have H5:=Lib.hid h5
  have MV5:=Lib.hid (MV4.out.trans mv5)
  have SM5:=Lib.hid (SM4.out.mv mv5 (by decide) (by decide) (by decide))
  have nx5:m4.next≤m5.next:=by rw[hm5];exact Int.le_refl _
  clear hm5
  clear h5 mv5
  by_cases hqj:j=0
  ·subst hqj
   go_wp2_with fail
   refine (mk_word H5.out (by have:=SM5.out.1;omega)).mono ?_
   rintro e w6 ⟨m6,⟨k,rfl,hk,hm6⟩,h6,mv6⟩
   have H6:=Lib.hid h6
   have MV6:=Lib.hid (MV5.out.trans mv6)
   have SM6:=Lib.hid (SM5.out.mv mv6 (by decide) (by decide) (by decide))
   have nx6:m5.next≤m6.next:=by rw[hm6];exact Int.le_refl _
   clear hm6
   clear h6 mv6
   go_wp2_with fail
   refine (mk_fresh H6.out ⟨by omega,by have:=SM6.out.2.1;omega⟩).mono ?_
   rintro e w7 ⟨m7,⟨rfl,hm7⟩,h7,mv7⟩
   have H7:=Lib.hid h7
   have MV7:=Lib.hid (MV6.out.trans mv7)
   have SM7:=Lib.hid (SM6.out.mv mv7 (by decide) (by decide) (by decide))
   have nx7:m6.next+1≤m7.next:=by rw[hm7];exact Int.le_refl _
   clear hm7
   clear h7 mv7
   go_wp2_with fail
   have AD7:=Lib.hid (show Ints _ _ _∧Stays _ _ _ from H7.out.newInts [a] #[.int .i64 (a)] rfl 1 rfl (by show 1≤maxLen;decide) 3)
   refine (Calls.since_mk ((Since.refl _).alloc _) (mk_add (H7.out.keep ((Since.refl _).alloc _)) (SM7.out.mono (by decide)) b (by rw[MV7.out.len];exact HB.out) ⟨15,m6.next,0,[a],_,k⟩ AD7.out (good_load hk ⟨by omega,by omega⟩ ⟨by omega,by omega⟩))).mono ?_
   rintro e w8 ⟨m8,⟨rfl,hm8⟩,h8,mv8⟩
   have H8:=Lib.hid h8
   have MV8:=Lib.hid (MV7.out.trans mv8)
   have SM8:=Lib.hid (SM7.out.mv mv8 (by decide) (by decide) (by decide))
   have nx8:m7.next≤m8.next:=by rw[hm8];exact Int.le_refl _
   clear hm8
   clear h8 mv8
   go_wp2_with fail
   go_end0
   refine⟨_,?_,H8.out,MV8.out.more (by decide) (by decide) (by decide)⟩
   exact rfl
  ·have hrj:(j==0)=false:=by simpa using hqj
   clear hqj
   go_wp2_with fail
   refine (mk_fresh H5.out ⟨by omega,by have:=SM5.out.2.1;omega⟩).mono ?_
   rintro e w6 ⟨m6,⟨rfl,hm6⟩,h6,mv6⟩
   have H6:=Lib.hid h6
   have MV6:=Lib.hid (MV5.out.trans mv6)
   have SM6:=Lib.hid (SM5.out.mv mv6 (by decide) (by decide) (by decide))
   have nx6:m5.next+1≤m6.next:=by rw[hm6];exact Int.le_refl _
   clear hm6
   clear h6 mv6
   go_wp2_with fail
   have AD6:=Lib.hid (show Ints _ _ _∧Stays _ _ _ from H6.out.newInts [a] #[.int .i64 (a)] rfl 1 rfl (by show 1≤maxLen;decide) 3)
   refine (Calls.since_mk ((Since.refl _).alloc _) (mk_add (H6.out.keep ((Since.refl _).alloc _)) (SM6.out.mono (by decide)) b (by rw[MV6.out.len];exact HB.out) ⟨15,m5.next,0,[a],_,i⟩ AD6.out (good_load (by unfold In32;omega) ⟨by omega,by omega⟩ ⟨by omega,by omega⟩))).mono ?_
   rintro e w7 ⟨m7,⟨rfl,hm7⟩,h7,mv7⟩
   have H7:=Lib.hid h7
   have MV7:=Lib.hid (MV6.out.trans mv7)
   have SM7:=Lib.hid (SM6.out.mv mv7 (by decide) (by decide) (by decide))
   have nx7:m6.next≤m7.next:=by rw[hm7];exact Int.le_refl _
   clear hm7
   clear h7 mv7
   go_wp2_with fail
   go_end0
   refine⟨_,?_,H7.out,MV7.out.more (by decide) (by decide) (by decide)⟩
   exact rfl
set_option maxHeartbeats 1000000 in
set_option maxRecDepth 100000 in
theorem mk_memory_st (h:MkOk C mb bv sv l m w) (hs:Sm 30 m) (b:Nat) (hb:b<m.bks.length) :
  Calls Tryz.prog 98 #[.pointer (some ⟨mb,0,none⟩),.int .i64 b,.bool true] w (MkQ C mb bv sv l w m 17 6 7 UnitQ):=by
 obtain⟨m0,hm0⟩:∃ x,x=m:=⟨_,rfl⟩
 subst hm0
 have H0:=Lib.hid h
 have MV0:=Lib.hid (Mv.refl mb bv w m0)
 have SM0:=Lib.hid hs
 have HB:=Lib.hid hb
 have nx0:=h.next0
 clear h hs
 go_enter Tryz.func98,Tryz.ntmps98
 go_wp2_with fail
 refine (mk_take H0.out 9 (by decide) (by have:=SM0.out.1;omega)).mono ?_
 rintro e w1 ⟨m1,⟨t,rfl,⟨ht0,ht1⟩,hm1⟩,h1,mv1⟩
 have H1:=Lib.hid h1
 have MV1:=Lib.hid (MV0.out.trans mv1)
 have SM1:=Lib.hid (SM0.out.mv mv1 (by decide) (by decide) (by decide))
 have nx1:m0.next≤m1.next:=by rw[hm1];exact Int.le_refl _
 clear hm1
 clear h1 mv1
 go_wp2_with fail
 refine (mk_constant H1.out (SM1.out.mono (by decide)) b (by rw[MV1.out.len];exact HB.out) (t) (by unfold In32;omega)).mono ?_
 rintro e w2 ⟨m2,⟨a,rfl,ha0,ha1⟩,h2,mv2⟩
 have H2:=Lib.hid h2
 have MV2:=Lib.hid (MV1.out.trans mv2)
 have SM2:=Lib.hid (SM1.out.mv mv2 (by decide) (by decide) (by decide))
 have nx2:=mv2.next.1
 clear h2 mv2
 go_wp2_with fail
 refine (mk_take H2.out 3 (by decide) (by have:=SM2.out.1;omega)).mono ?_
 rintro e w3 ⟨m3,⟨q,rfl,⟨hq0,hq1⟩,hm3⟩,h3,mv3⟩
 have H3:=Lib.hid h3
 have MV3:=Lib.hid (MV2.out.trans mv3)
 have SM3:=Lib.hid (SM2.out.mv mv3 (by decide) (by decide) (by decide))
 have nx3:m2.next≤m3.next:=by rw[hm3];exact Int.le_refl _
 clear hm3
 clear h3 mv3
 by_cases hqq:q=0
 ·subst hqq
  go_wp2_with fail
  refine (mk_some H3.out (SM3.out.mono (by decide)) b (by rw[MV3.out.len];exact HB.out)).mono ?_
  rintro e w4 ⟨m4,⟨c,rfl,hc0,hc1⟩,h4,mv4⟩
  have H4:=Lib.hid h4
  have MV4:=Lib.hid (MV3.out.trans mv4)
  have SM4:=Lib.hid (SM3.out.mv mv4 (by decide) (by decide) (by decide))
  have nx4:=mv4.next.1
  clear h4 mv4
  go_wp2_with fail
  refine (mk_constant H4.out (SM4.out.mono (by decide)) b (by rw[MV4.out.len];exact HB.out) (7) (by unfold In32;decide)).mono ?_
  rintro e w5 ⟨m5,⟨s7,rfl,hs70,hs71⟩,h5,mv5⟩
  have H5:=Lib.hid h5
  have MV5:=Lib.hid (MV4.out.trans mv5)
  have SM5:=Lib.hid (SM4.out.mv mv5 (by decide) (by decide) (by decide))
  have nx5:=mv5.next.1
  clear h5 mv5
  go_wp2_with fail
  refine (mk_fresh H5.out ⟨by omega,by have:=SM5.out.2.1;omega⟩).mono ?_
  rintro e w6 ⟨m6,⟨rfl,hm6⟩,h6,mv6⟩
  have H6:=Lib.hid h6
  have MV6:=Lib.hid (MV5.out.trans mv6)
  have SM6:=Lib.hid (SM5.out.mv mv6 (by decide) (by decide) (by decide))
  have nx6:m5.next+1≤m6.next:=by rw[hm6];exact Int.le_refl _
  clear hm6
  clear h6 mv6
  go_wp2_with fail
  have AD6:=Lib.hid (show Ints _ _ _∧Stays _ _ _ from H6.out.newInts [c,s7] #[.int .i64 (c),.int .i64 (s7)] rfl 2 rfl (by show 2≤maxLen;decide) 3)
  refine (Calls.since_mk ((Since.refl _).alloc _) (mk_add (H6.out.keep ((Since.refl _).alloc _)) (SM6.out.mono (by decide)) b (by rw[MV6.out.len];exact HB.out) ⟨5,m5.next,0,[c,s7],_,0⟩ AD6.out (good_two (by decide) ⟨by omega,by omega⟩ ⟨by omega,by omega⟩ ⟨by omega,by omega⟩))).mono ?_
  rintro e w7 ⟨m7,⟨rfl,hm7⟩,h7,mv7⟩
  have H7:=Lib.hid h7
  have MV7:=Lib.hid (MV6.out.trans mv7)
  have SM7:=Lib.hid (SM6.out.mv mv7 (by decide) (by decide) (by decide))
  have nx7:m6.next≤m7.next:=by rw[hm7];exact Int.le_refl _
  clear hm7
  clear h7 mv7
  go_wp2_with fail
  refine (mk_fresh H7.out ⟨by omega,by have:=SM7.out.2.1;omega⟩).mono ?_
  rintro e w8 ⟨m8,⟨rfl,hm8⟩,h8,mv8⟩
  have H8:=Lib.hid h8
  have MV8:=Lib.hid (MV7.out.trans mv8)
  have SM8:=Lib.hid (SM7.out.mv mv8 (by decide) (by decide) (by decide))
  have nx8:m7.next+1≤m8.next:=by rw[hm8];exact Int.le_refl _
  clear hm8
  clear h8 mv8
  go_wp2_with fail
  have AD8:=Lib.hid (show Ints _ _ _∧Stays _ _ _ from H8.out.newInts [a,m5.next] #[.int .i64 (a),.int .i64 (m5.next)] rfl 2 rfl (by show 2≤maxLen;decide) 3)
  refine (Calls.since_mk ((Since.refl _).alloc _) (mk_add (H8.out.keep ((Since.refl _).alloc _)) (SM8.out.mono (by decide)) b (by rw[MV8.out.len];exact HB.out) ⟨2,m7.next,0,[a,m5.next],_,0⟩ AD8.out (good_two (by decide) ⟨by omega,by omega⟩ ⟨by omega,by omega⟩ ⟨by omega,by omega⟩))).mono ?_
  rintro e w9 ⟨m9,⟨rfl,hm9⟩,h9,mv9⟩
  have H9:=Lib.hid h9
  have MV9:=Lib.hid (MV8.out.trans mv9)
  have SM9:=Lib.hid (SM8.out.mv mv9 (by decide) (by decide) (by decide))
  have nx9:m8.next≤m9.next:=by rw[hm9];exact Int.le_refl _
  clear hm9
  clear h9 mv9
  go_wp2_with fail
  refine (mk_take H9.out 4 (by decide) (by have:=SM9.out.1;omega)).mono ?_
  rintro e w10 ⟨m10,⟨i,rfl,⟨hi0,hi1⟩,hm10⟩,h10,mv10⟩
  have H10:=Lib.hid h10
  have MV10:=Lib.hid (MV9.out.trans mv10)
  have SM10:=Lib.hid (SM9.out.mv mv10 (by decide) (by decide) (by decide))
  have nx10:m9.next≤m10.next:=by rw[hm10];exact Int.le_refl _
  clear hm10
  clear h10 mv10
  go_wp2_with fail
  refine (mk_take H10.out 12 (by decide) (by have:=SM10.out.1;omega)).mono ?_
  rintro e w11 ⟨m11,⟨j,rfl,⟨hj0,hj1⟩,hm11⟩,h11,mv11⟩
  have H11:=Lib.hid h11
  have MV11:=Lib.hid (MV10.out.trans mv11)
  have SM11:=Lib.hid (SM10.out.mv mv11 (by decide) (by decide) (by decide))
  have nx11:m10.next≤m11.next:=by rw[hm11];exact Int.le_refl _
  clear hm11
  clear h11 mv11
  by_cases hqj:j=0
  ·subst hqj
   go_wp2_with fail
   refine (mk_word H11.out (by have:=SM11.out.1;omega)).mono ?_
   rintro e w12 ⟨m12,⟨k,rfl,hk,hm12⟩,h12,mv12⟩
   have H12:=Lib.hid h12
   have MV12:=Lib.hid (MV11.out.trans mv12)
   have SM12:=Lib.hid (SM11.out.mv mv12 (by decide) (by decide) (by decide))
   have nx12:m11.next≤m12.next:=by rw[hm12];exact Int.le_refl _
   clear hm12
   clear h12 mv12
   go_wp2_with fail
   refine (mk_some H12.out (SM12.out.mono (by decide)) b (by rw[MV12.out.len];exact HB.out)).mono ?_
   rintro e w13 ⟨m13,⟨s,rfl,hs0,hs1⟩,h13,mv13⟩
   have H13:=Lib.hid h13
   have MV13:=Lib.hid (MV12.out.trans mv13)
   have SM13:=Lib.hid (SM12.out.mv mv13 (by decide) (by decide) (by decide))
   have nx13:=mv13.next.1
   clear h13 mv13
   go_wp2_with fail
   have AD13:=Lib.hid (show Ints _ _ _∧Stays _ _ _ from H13.out.newInts [m7.next,s] #[.int .i64 (m7.next),.int .i64 (s)] rfl 2 rfl (by show 2≤maxLen;decide) 3)
   refine (Calls.since_mk ((Since.refl _).alloc _) (mk_add (H13.out.keep ((Since.refl _).alloc _)) (SM13.out.mono (by decide)) b (by rw[MV13.out.len];exact HB.out) ⟨16,0,0,[m7.next,s],_,k⟩ AD13.out (good_store hk ⟨by omega,by omega⟩ ⟨by omega,by omega⟩))).mono ?_
   rintro e w14 ⟨m14,⟨rfl,hm14⟩,h14,mv14⟩
   have H14:=Lib.hid h14
   have MV14:=Lib.hid (MV13.out.trans mv14)
   have SM14:=Lib.hid (SM13.out.mv mv14 (by decide) (by decide) (by decide))
   have nx14:m13.next≤m14.next:=by rw[hm14];exact Int.le_refl _
   clear hm14
   clear h14 mv14
   go_wp2_with fail
   go_end0
   refine⟨_,?_,H14.out,MV14.out.more (by decide) (by decide) (by decide)⟩
   exact rfl
  ·have hrj:(j==0)=false:=by simpa using hqj
   clear hqj
   go_wp2_with fail
   refine (mk_some H11.out (SM11.out.mono (by decide)) b (by rw[MV11.out.len];exact HB.out)).mono ?_
   rintro e w12 ⟨m12,⟨s,rfl,hs0,hs1⟩,h12,mv12⟩
   have H12:=Lib.hid h12
   have MV12:=Lib.hid (MV11.out.trans mv12)
   have SM12:=Lib.hid (SM11.out.mv mv12 (by decide) (by decide) (by decide))
   have nx12:=mv12.next.1
   clear h12 mv12
   go_wp2_with fail
   have AD12:=Lib.hid (show Ints _ _ _∧Stays _ _ _ from H12.out.newInts [m7.next,s] #[.int .i64 (m7.next),.int .i64 (s)] rfl 2 rfl (by show 2≤maxLen;decide) 3)
   refine (Calls.since_mk ((Since.refl _).alloc _) (mk_add (H12.out.keep ((Since.refl _).alloc _)) (SM12.out.mono (by decide)) b (by rw[MV12.out.len];exact HB.out) ⟨16,0,0,[m7.next,s],_,i⟩ AD12.out (good_store (by unfold In32;omega) ⟨by omega,by omega⟩ ⟨by omega,by omega⟩))).mono ?_
   rintro e w13 ⟨m13,⟨rfl,hm13⟩,h13,mv13⟩
   have H13:=Lib.hid h13
   have MV13:=Lib.hid (MV12.out.trans mv13)
   have SM13:=Lib.hid (SM12.out.mv mv13 (by decide) (by decide) (by decide))
   have nx13:m12.next≤m13.next:=by rw[hm13];exact Int.le_refl _
   clear hm13
   clear h13 mv13
   go_wp2_with fail
   go_end0
   refine⟨_,?_,H13.out,MV13.out.more (by decide) (by decide) (by decide)⟩
   exact rfl
 ·have hrq:(q==0)=false:=by simpa using hqq
  clear hqq
  go_wp2_with fail
  refine (mk_take H3.out 4 (by decide) (by have:=SM3.out.1;omega)).mono ?_
  rintro e w4 ⟨m4,⟨i,rfl,⟨hi0,hi1⟩,hm4⟩,h4,mv4⟩
  have H4:=Lib.hid h4
  have MV4:=Lib.hid (MV3.out.trans mv4)
  have SM4:=Lib.hid (SM3.out.mv mv4 (by decide) (by decide) (by decide))
  have nx4:m3.next≤m4.next:=by rw[hm4];exact Int.le_refl _
  clear hm4
  clear h4 mv4
  go_wp2_with fail
  refine (mk_take H4.out 12 (by decide) (by have:=SM4.out.1;omega)).mono ?_
  rintro e w5 ⟨m5,⟨j,rfl,⟨hj0,hj1⟩,hm5⟩,h5,mv5⟩
  have H5:=Lib.hid h5
  have MV5:=Lib.hid (MV4.out.trans mv5)
  have SM5:=Lib.hid (SM4.out.mv mv5 (by decide) (by decide) (by decide))
  have nx5:m4.next≤m5.next:=by rw[hm5];exact Int.le_refl _
  clear hm5
  clear h5 mv5
  by_cases hqj:j=0
  ·subst hqj
   go_wp2_with fail
   refine (mk_word H5.out (by have:=SM5.out.1;omega)).mono ?_
   rintro e w6 ⟨m6,⟨k,rfl,hk,hm6⟩,h6,mv6⟩
   have H6:=Lib.hid h6
   have MV6:=Lib.hid (MV5.out.trans mv6)
   have SM6:=Lib.hid (SM5.out.mv mv6 (by decide) (by decide) (by decide))
   have nx6:m5.next≤m6.next:=by rw[hm6];exact Int.le_refl _
   clear hm6
   clear h6 mv6
   go_wp2_with fail
   refine (mk_some H6.out (SM6.out.mono (by decide)) b (by rw[MV6.out.len];exact HB.out)).mono ?_
   rintro e w7 ⟨m7,⟨s,rfl,hs0,hs1⟩,h7,mv7⟩
   have H7:=Lib.hid h7
   have MV7:=Lib.hid (MV6.out.trans mv7)
   have SM7:=Lib.hid (SM6.out.mv mv7 (by decide) (by decide) (by decide))
   have nx7:=mv7.next.1
   clear h7 mv7
   go_wp2_with fail
   have AD7:=Lib.hid (show Ints _ _ _∧Stays _ _ _ from H7.out.newInts [a,s] #[.int .i64 (a),.int .i64 (s)] rfl 2 rfl (by show 2≤maxLen;decide) 3)
   refine (Calls.since_mk ((Since.refl _).alloc _) (mk_add (H7.out.keep ((Since.refl _).alloc _)) (SM7.out.mono (by decide)) b (by rw[MV7.out.len];exact HB.out) ⟨16,0,0,[a,s],_,k⟩ AD7.out (good_store hk ⟨by omega,by omega⟩ ⟨by omega,by omega⟩))).mono ?_
   rintro e w8 ⟨m8,⟨rfl,hm8⟩,h8,mv8⟩
   have H8:=Lib.hid h8
   have MV8:=Lib.hid (MV7.out.trans mv8)
   have SM8:=Lib.hid (SM7.out.mv mv8 (by decide) (by decide) (by decide))
   have nx8:m7.next≤m8.next:=by rw[hm8];exact Int.le_refl _
   clear hm8
   clear h8 mv8
   go_wp2_with fail
   go_end0
   refine⟨_,?_,H8.out,MV8.out.more (by decide) (by decide) (by decide)⟩
   exact rfl
  ·have hrj:(j==0)=false:=by simpa using hqj
   clear hqj
   go_wp2_with fail
   refine (mk_some H5.out (SM5.out.mono (by decide)) b (by rw[MV5.out.len];exact HB.out)).mono ?_
   rintro e w6 ⟨m6,⟨s,rfl,hs0,hs1⟩,h6,mv6⟩
   have H6:=Lib.hid h6
   have MV6:=Lib.hid (MV5.out.trans mv6)
   have SM6:=Lib.hid (SM5.out.mv mv6 (by decide) (by decide) (by decide))
   have nx6:=mv6.next.1
   clear h6 mv6
   go_wp2_with fail
   have AD6:=Lib.hid (show Ints _ _ _∧Stays _ _ _ from H6.out.newInts [a,s] #[.int .i64 (a),.int .i64 (s)] rfl 2 rfl (by show 2≤maxLen;decide) 3)
   refine (Calls.since_mk ((Since.refl _).alloc _) (mk_add (H6.out.keep ((Since.refl _).alloc _)) (SM6.out.mono (by decide)) b (by rw[MV6.out.len];exact HB.out) ⟨16,0,0,[a,s],_,i⟩ AD6.out (good_store (by unfold In32;omega) ⟨by omega,by omega⟩ ⟨by omega,by omega⟩))).mono ?_
   rintro e w7 ⟨m7,⟨rfl,hm7⟩,h7,mv7⟩
   have H7:=Lib.hid h7
   have MV7:=Lib.hid (MV6.out.trans mv7)
   have SM7:=Lib.hid (SM6.out.mv mv7 (by decide) (by decide) (by decide))
   have nx7:m6.next≤m7.next:=by rw[hm7];exact Int.le_refl _
   clear hm7
   clear h7 mv7
   go_wp2_with fail
   go_end0
   refine⟨_,?_,H7.out,MV7.out.more (by decide) (by decide) (by decide)⟩
   exact rfl
theorem mk_memory (h:MkOk C mb bv sv l m w) (hs:Sm 30 m) (b:Nat) (hb:b<m.bks.length) (store:Bool) :
  Calls Tryz.prog 98 #[.pointer (some ⟨mb,0,none⟩),.int .i64 b,.bool store] w (MkQ C mb bv sv l w m 17 6 7 UnitQ):=by
 cases store
 ·exact mk_memory_ld h hs b hb
 ·exact mk_memory_st h hs b hb
end
end Go.Proofs.YtmhojfpidedjeaaGreatDoor
