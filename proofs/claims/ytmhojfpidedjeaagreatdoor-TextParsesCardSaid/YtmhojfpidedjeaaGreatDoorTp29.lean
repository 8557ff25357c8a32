import Derived.Test.YtmhojfpidedjeaaGreatDoorTp28
namespace Go.Proofs.YtmhojfpidedjeaaGreatDoor
open Go.RowKit Go.Lib
set_option linter.unusedVariables false
set_option maxHeartbeats 1000000
set_option maxRecDepth 100000
section
variable {C : Nat→Prop} {mb:Nat} {bv sv:Value} {l : List Int} {m m':Zj} {w w':World}
theorem ZbH (h:MkOk C mb bv sv l m w) (hs:Sm 30 m) (b:Nat) (hb:b<m.bks.length) :
  Calls Tryz.prog 98 #[.pointer (some ⟨mb,0,none⟩),.int .i64 b,.bool false] w (MkQ C mb bv sv l w m 17 6 7 QP):=by
 obtain⟨m0,hC⟩:∃ x,x=m:=⟨_,rfl⟩
 subst hC;have H0:=hid h;have MV0:=hid (Mv.refl mb bv w m0);have SM0:=hid hs;have HB:=hid hb;have nx0:=h.next0;clear h hs;go_enter Tryz.func98,Tryz.ntmps98
 go_wp2_with fail
 refine (Zz H0.out 9 (by decide) (by have:=SM0.out.1;omega)).mono ?_;rintro e w1 ⟨m1,⟨t,rfl,⟨hM,hL⟩,hv⟩,h1,mv1⟩;have H1:=hid h1;have MV1:=hid (MV0.out.trans mv1);have SM1:=hid (SM0.out.mv mv1);have nx1:m0.next≤m1.next:=by rw[hv];exact Int.le_refl _
 clear hv;clear h1 mv1;go_wp2_with fail
 refine (Yn H1.out (SM1.out.mono (by decide)) b (by rw[MV1.out.len];exact HB.out) (t) (by unfold In32;omega)).mono ?_;rintro e w2 ⟨m2,⟨a,rfl,hT,hS⟩,h2,mv2⟩;have H2:=hid h2;have MV2:=hid (MV1.out.trans mv2);have SM2:=hid (SM1.out.mv mv2);have nx2:=mv2.next.1;clear h2 mv2;go_wp2_with fail
 refine (Zz H2.out 3 (by decide) (by have:=SM2.out.1;omega)).mono ?_;rintro e w3 ⟨m3,⟨q,rfl,⟨hP,hO⟩,hu⟩,h3,mv3⟩;have H3:=hid h3;have MV3:=hid (MV2.out.trans mv3);have SM3:=hid (SM2.out.mv mv3);have nx3:m2.next≤m3.next:=by rw[hu];exact Int.le_refl _
 clear hu;clear h3 mv3;by_cases hm:q=0
 ·subst hm;go_wp2_with fail
  refine (Yt H3.out (SM3.out.mono (by decide)) b (by rw[MV3.out.len];exact HB.out)).mono ?_;rintro e w4 ⟨m4,⟨c,rfl,hR,hQ⟩,h4,mv4⟩;have H4:=hid h4;have MV4:=hid (MV3.out.trans mv4);have SM4:=hid (SM3.out.mv mv4);have nx4:=mv4.next.1;clear h4 mv4;go_wp2_with fail
  refine (Yn H4.out (SM4.out.mono (by decide)) b (by rw[MV4.out.len];exact HB.out) (7) (by unfold In32;decide)).mono ?_;rintro e w5 ⟨m5,⟨s7,rfl,hK,hJ⟩,h5,mv5⟩;have H5:=hid h5;have MV5:=hid (MV4.out.trans mv5);have SM5:=hid (SM4.out.mv mv5);have nx5:=mv5.next.1;clear h5 mv5;go_wp2_with fail
  refine (Ym H5.out ⟨by omega,by have:=SM5.out.2.1;omega⟩).mono ?_;rintro e w6 ⟨m6,⟨rfl,hc⟩,h6,mv6⟩;have H6:=hid h6;have MV6:=hid (MV5.out.trans mv6);have SM6:=hid (SM5.out.mv mv6);have nx6:m5.next+1≤m6.next:=by rw[hc];exact Int.le_refl _
  clear hc;clear h6 mv6;go_wp2_with fail
  have AD6:=zH (Zm _ _ _∧Stays _ _ _) (H6.out.newInts [c,s7] #[.int .i64 (c),.int .i64 (s7)] rfl 2 rfl (by show 2≤maxLen;decide) 3);refine (Calls.since_mk ((Since.refl _).alloc _) (Yr (H6.out.keep ((Since.refl _).alloc _)) (SM6.out.mono (by decide)) b (by rw[MV6.out.len];exact HB.out) ⟨5,m5.next,0,[c,s7],_,0⟩ AD6.out (Y5 (by decide) ⟨by omega,by omega⟩ ⟨by omega,by omega⟩ ⟨by omega,by omega⟩))).mono ?_;rintro e w7 ⟨m7,⟨rfl,ha⟩,h7,mv7⟩;have H7:=hid h7;have MV7:=hid (MV6.out.trans mv7);have SM7:=hid (SM6.out.mv mv7);have nx7:m6.next≤m7.next:=by rw[ha];exact Int.le_refl _
  clear ha;clear h7 mv7;go_wp2_with fail
  refine (Ym H7.out ⟨by omega,by have:=SM7.out.2.1;omega⟩).mono ?_;rintro e w8 ⟨m8,⟨rfl,hg⟩,h8,mv8⟩;have H8:=hid h8;have MV8:=hid (MV7.out.trans mv8);have SM8:=hid (SM7.out.mv mv8);have nx8:m7.next+1≤m8.next:=by rw[hg];exact Int.le_refl _
  clear hg;clear h8 mv8;go_wp2_with fail
  have AD8:=zH (Zm _ _ _∧Stays _ _ _) (H8.out.newInts [a,m5.next] #[.int .i64 (a),.int .i64 (m5.next)] rfl 2 rfl (by show 2≤maxLen;decide) 3);refine (Calls.since_mk ((Since.refl _).alloc _) (Yr (H8.out.keep ((Since.refl _).alloc _)) (SM8.out.mono (by decide)) b (by rw[MV8.out.len];exact HB.out) ⟨2,m7.next,0,[a,m5.next],_,0⟩ AD8.out (Y5 (by decide) ⟨by omega,by omega⟩ ⟨by omega,by omega⟩ ⟨by omega,by omega⟩))).mono ?_;rintro e w9 ⟨m9,⟨rfl,hq⟩,h9,mv9⟩;have H9:=hid h9;have MV9:=hid (MV8.out.trans mv9);have SM9:=hid (SM8.out.mv mv9);have nx9:m8.next≤m9.next:=by rw[hq];exact Int.le_refl _
  clear hq;clear h9 mv9;go_wp2_with fail
  refine (Zz H9.out 4 (by decide) (by have:=SM9.out.1;omega)).mono ?_;rintro e w10 ⟨m10,⟨i,rfl,⟨hG,hF⟩,hp⟩,hz,mv10⟩;have hI:=hid hz;have MV10:=hid (MV9.out.trans mv10);have SM10:=hid (SM9.out.mv mv10);have nx10:m9.next≤m10.next:=by rw[hp];exact Int.le_refl _
  clear hp;clear hz mv10;go_wp2_with fail
  refine (Zz hI.out 12 (by decide) (by have:=SM10.out.1;omega)).mono ?_;rintro e w11 ⟨m11,⟨j,rfl,⟨hE,hD⟩,ho⟩,hy,mv11⟩;have hA:=hid hy;have MV11:=hid (MV10.out.trans mv11);have SM11:=hid (SM10.out.mv mv11);have nx11:m10.next≤m11.next:=by rw[ho];exact Int.le_refl _
  clear ho;clear hy mv11;by_cases hd:j=0
  ·subst hd;go_wp2_with fail
   refine (Wo hA.out (by have:=SM11.out.1;omega)).mono ?_;rintro e w12 ⟨m12,⟨k,rfl,hk,hf⟩,hi,mv12⟩;have hl:=hid hi;have MV12:=hid (MV11.out.trans mv12);have SM12:=hid (SM11.out.mv mv12);have nx12:m11.next≤m12.next:=by rw[hf];exact Int.le_refl _
   clear hf;clear hi mv12;go_wp2_with fail
   refine (Ym hl.out ⟨by omega,by have:=SM12.out.2.1;omega⟩).mono ?_;rintro e w13 ⟨m13,⟨rfl,he⟩,hh,mv13⟩;have hj:=hid hh;have MV13:=hid (MV12.out.trans mv13);have SM13:=hid (SM12.out.mv mv13);have nx13:m12.next+1≤m13.next:=by rw[he];exact Int.le_refl _
   clear he;clear hh mv13;go_wp2_with fail
   have AD13:=zH (Zm _ _ _∧Stays _ _ _) (hj.out.newInts [m7.next] #[.int .i64 (m7.next)] rfl 1 rfl (by show 1≤maxLen;decide) 3);refine (Calls.since_mk ((Since.refl _).alloc _) (Yr (hj.out.keep ((Since.refl _).alloc _)) (SM13.out.mono (by decide)) b (by rw[MV13.out.len];exact HB.out) ⟨15,m12.next,0,[m7.next],_,k⟩ AD13.out (VZ hk ⟨by omega,by omega⟩ ⟨by omega,by omega⟩))).mono ?_;rintro e w14 ⟨m14,⟨rfl,hn⟩,hx,mv14⟩;have hH:=hid hx;have MV14:=hid (MV13.out.trans mv14);have SM14:=hid (SM13.out.mv mv14);have nx14:m13.next≤m14.next:=by rw[hn];exact Int.le_refl _
   clear hn;clear hx mv14;go_wp2_with fail
   go_end0
   refine⟨_,?_,hH.out,MV14.out.more⟩;exact rfl
  ·have hB:(j==0)=false:=by simpa using hd
   clear hd;go_wp2_with fail
   refine (Ym hA.out ⟨by omega,by have:=SM11.out.2.1;omega⟩).mono ?_;rintro e w12 ⟨m12,⟨rfl,hf⟩,hi,mv12⟩;have hl:=hid hi;have MV12:=hid (MV11.out.trans mv12);have SM12:=hid (SM11.out.mv mv12);have nx12:m11.next+1≤m12.next:=by rw[hf];exact Int.le_refl _
   clear hf;clear hi mv12;go_wp2_with fail
   have AD12:=zH (Zm _ _ _∧Stays _ _ _) (hl.out.newInts [m7.next] #[.int .i64 (m7.next)] rfl 1 rfl (by show 1≤maxLen;decide) 3);refine (Calls.since_mk ((Since.refl _).alloc _) (Yr (hl.out.keep ((Since.refl _).alloc _)) (SM12.out.mono (by decide)) b (by rw[MV12.out.len];exact HB.out) ⟨15,m11.next,0,[m7.next],_,i⟩ AD12.out (VZ (by unfold In32;omega) ⟨by omega,by omega⟩ ⟨by omega,by omega⟩))).mono ?_;rintro e w13 ⟨m13,⟨rfl,he⟩,hh,mv13⟩;have hj:=hid hh;have MV13:=hid (MV12.out.trans mv13);have SM13:=hid (SM12.out.mv mv13);have nx13:m12.next≤m13.next:=by rw[he];exact Int.le_refl _
   clear he;clear hh mv13;go_wp2_with fail
   go_end0
   refine⟨_,?_,hj.out,MV13.out.more⟩;exact rfl
 ·have hN:(q==0)=false:=by simpa using hm
  clear hm;go_wp2_with fail
  refine (Zz H3.out 4 (by decide) (by have:=SM3.out.1;omega)).mono ?_;rintro e w4 ⟨m4,⟨i,rfl,⟨hG,hF⟩,ht⟩,h4,mv4⟩;have H4:=hid h4;have MV4:=hid (MV3.out.trans mv4);have SM4:=hid (SM3.out.mv mv4);have nx4:m3.next≤m4.next:=by rw[ht];exact Int.le_refl _
  clear ht;clear h4 mv4;go_wp2_with fail
  refine (Zz H4.out 12 (by decide) (by have:=SM4.out.1;omega)).mono ?_;rintro e w5 ⟨m5,⟨j,rfl,⟨hE,hD⟩,hr⟩,h5,mv5⟩;have H5:=hid h5;have MV5:=hid (MV4.out.trans mv5);have SM5:=hid (SM4.out.mv mv5);have nx5:m4.next≤m5.next:=by rw[hr];exact Int.le_refl _
  clear hr;clear h5 mv5;by_cases hd:j=0
  ·subst hd;go_wp2_with fail
   refine (Wo H5.out (by have:=SM5.out.1;omega)).mono ?_;rintro e w6 ⟨m6,⟨k,rfl,hk,hc⟩,h6,mv6⟩;have H6:=hid h6;have MV6:=hid (MV5.out.trans mv6);have SM6:=hid (SM5.out.mv mv6);have nx6:m5.next≤m6.next:=by rw[hc];exact Int.le_refl _
   clear hc;clear h6 mv6;go_wp2_with fail
   refine (Ym H6.out ⟨by omega,by have:=SM6.out.2.1;omega⟩).mono ?_;rintro e w7 ⟨m7,⟨rfl,ha⟩,h7,mv7⟩;have H7:=hid h7;have MV7:=hid (MV6.out.trans mv7);have SM7:=hid (SM6.out.mv mv7);have nx7:m6.next+1≤m7.next:=by rw[ha];exact Int.le_refl _
   clear ha;clear h7 mv7;go_wp2_with fail
   have AD7:=zH (Zm _ _ _∧Stays _ _ _) (H7.out.newInts [a] #[.int .i64 (a)] rfl 1 rfl (by show 1≤maxLen;decide) 3);refine (Calls.since_mk ((Since.refl _).alloc _) (Yr (H7.out.keep ((Since.refl _).alloc _)) (SM7.out.mono (by decide)) b (by rw[MV7.out.len];exact HB.out) ⟨15,m6.next,0,[a],_,k⟩ AD7.out (VZ hk ⟨by omega,by omega⟩ ⟨by omega,by omega⟩))).mono ?_;rintro e w8 ⟨m8,⟨rfl,hg⟩,h8,mv8⟩;have H8:=hid h8;have MV8:=hid (MV7.out.trans mv8);have SM8:=hid (SM7.out.mv mv8);have nx8:m7.next≤m8.next:=by rw[hg];exact Int.le_refl _
   clear hg;clear h8 mv8;go_wp2_with fail
   go_end0
   refine⟨_,?_,H8.out,MV8.out.more⟩;exact rfl
  ·have hB:(j==0)=false:=by simpa using hd
   clear hd;go_wp2_with fail
   refine (Ym H5.out ⟨by omega,by have:=SM5.out.2.1;omega⟩).mono ?_;rintro e w6 ⟨m6,⟨rfl,hc⟩,h6,mv6⟩;have H6:=hid h6;have MV6:=hid (MV5.out.trans mv6);have SM6:=hid (SM5.out.mv mv6);have nx6:m5.next+1≤m6.next:=by rw[hc];exact Int.le_refl _
   clear hc;clear h6 mv6;go_wp2_with fail
   have AD6:=zH (Zm _ _ _∧Stays _ _ _) (H6.out.newInts [a] #[.int .i64 (a)] rfl 1 rfl (by show 1≤maxLen;decide) 3);refine (Calls.since_mk ((Since.refl _).alloc _) (Yr (H6.out.keep ((Since.refl _).alloc _)) (SM6.out.mono (by decide)) b (by rw[MV6.out.len];exact HB.out) ⟨15,m5.next,0,[a],_,i⟩ AD6.out (VZ (by unfold In32;omega) ⟨by omega,by omega⟩ ⟨by omega,by omega⟩))).mono ?_;rintro e w7 ⟨m7,⟨rfl,ha⟩,h7,mv7⟩;have H7:=hid h7;have MV7:=hid (MV6.out.trans mv7);have SM7:=hid (SM6.out.mv mv7);have nx7:m6.next≤m7.next:=by rw[ha];exact Int.le_refl _
   clear ha;clear h7 mv7;go_wp2_with fail
   go_end0
   refine⟨_,?_,H7.out,MV7.out.more⟩;exact rfl
theorem ZbG (h:MkOk C mb bv sv l m w) (hs:Sm 30 m) (b:Nat) (hb:b<m.bks.length) :
  Calls Tryz.prog 98 #[.pointer (some ⟨mb,0,none⟩),.int .i64 b,.bool true] w (MkQ C mb bv sv l w m 17 6 7 QP):=by
 obtain⟨m0,hE⟩:∃ x,x=m:=⟨_,rfl⟩
 subst hE;have H0:=hid h;have MV0:=hid (Mv.refl mb bv w m0);have SM0:=hid hs;have HB:=hid hb;have nx0:=h.next0;clear h hs;go_enter Tryz.func98,Tryz.ntmps98
 go_wp2_with fail
 refine (Zz H0.out 9 (by decide) (by have:=SM0.out.1;omega)).mono ?_;rintro e w1 ⟨m1,⟨t,rfl,⟨hO,hN⟩,hy⟩,h1,mv1⟩;have H1:=hid h1;have MV1:=hid (MV0.out.trans mv1);have SM1:=hid (SM0.out.mv mv1);have nx1:m0.next≤m1.next:=by rw[hy];exact Int.le_refl _
 clear hy;clear h1 mv1;go_wp2_with fail
 refine (Yn H1.out (SM1.out.mono (by decide)) b (by rw[MV1.out.len];exact HB.out) (t) (by unfold In32;omega)).mono ?_;rintro e w2 ⟨m2,⟨a,rfl,hV,hU⟩,h2,mv2⟩;have H2:=hid h2;have MV2:=hid (MV1.out.trans mv2);have SM2:=hid (SM1.out.mv mv2);have nx2:=mv2.next.1;clear h2 mv2;go_wp2_with fail
 refine (Zz H2.out 3 (by decide) (by have:=SM2.out.1;omega)).mono ?_;rintro e w3 ⟨m3,⟨q,rfl,⟨hR,hQ⟩,hx⟩,h3,mv3⟩;have H3:=hid h3;have MV3:=hid (MV2.out.trans mv3);have SM3:=hid (SM2.out.mv mv3);have nx3:m2.next≤m3.next:=by rw[hx];exact Int.le_refl _
 clear hx;clear h3 mv3;by_cases hm:q=0
 ·subst hm;go_wp2_with fail
  refine (Yt H3.out (SM3.out.mono (by decide)) b (by rw[MV3.out.len];exact HB.out)).mono ?_;rintro e w4 ⟨m4,⟨c,rfl,hT,hS⟩,h4,mv4⟩;have H4:=hid h4;have MV4:=hid (MV3.out.trans mv4);have SM4:=hid (SM3.out.mv mv4);have nx4:=mv4.next.1;clear h4 mv4;go_wp2_with fail
  refine (Yn H4.out (SM4.out.mono (by decide)) b (by rw[MV4.out.len];exact HB.out) (7) (by unfold In32;decide)).mono ?_;rintro e w5 ⟨m5,⟨s7,rfl,hM,hL⟩,h5,mv5⟩;have H5:=hid h5;have MV5:=hid (MV4.out.trans mv5);have SM5:=hid (SM4.out.mv mv5);have nx5:=mv5.next.1;clear h5 mv5;go_wp2_with fail
  refine (Ym H5.out ⟨by omega,by have:=SM5.out.2.1;omega⟩).mono ?_;rintro e w6 ⟨m6,⟨rfl,he⟩,h6,mv6⟩;have H6:=hid h6;have MV6:=hid (MV5.out.trans mv6);have SM6:=hid (SM5.out.mv mv6);have nx6:m5.next+1≤m6.next:=by rw[he];exact Int.le_refl _
  clear he;clear h6 mv6;go_wp2_with fail
  have AD6:=zH (Zm _ _ _∧Stays _ _ _) (H6.out.newInts [c,s7] #[.int .i64 (c),.int .i64 (s7)] rfl 2 rfl (by show 2≤maxLen;decide) 3);refine (Calls.since_mk ((Since.refl _).alloc _) (Yr (H6.out.keep ((Since.refl _).alloc _)) (SM6.out.mono (by decide)) b (by rw[MV6.out.len];exact HB.out) ⟨5,m5.next,0,[c,s7],_,0⟩ AD6.out (Y5 (by decide) ⟨by omega,by omega⟩ ⟨by omega,by omega⟩ ⟨by omega,by omega⟩))).mono ?_;rintro e w7 ⟨m7,⟨rfl,hd⟩,h7,mv7⟩;have H7:=hid h7;have MV7:=hid (MV6.out.trans mv7);have SM7:=hid (SM6.out.mv mv7);have nx7:m6.next≤m7.next:=by rw[hd];exact Int.le_refl _
  clear hd;clear h7 mv7;go_wp2_with fail
  refine (Ym H7.out ⟨by omega,by have:=SM7.out.2.1;omega⟩).mono ?_;rintro e w8 ⟨m8,⟨rfl,hc⟩,h8,mv8⟩;have H8:=hid h8;have MV8:=hid (MV7.out.trans mv8);have SM8:=hid (SM7.out.mv mv8);have nx8:m7.next+1≤m8.next:=by rw[hc];exact Int.le_refl _
  clear hc;clear h8 mv8;go_wp2_with fail
  have AD8:=zH (Zm _ _ _∧Stays _ _ _) (H8.out.newInts [a,m5.next] #[.int .i64 (a),.int .i64 (m5.next)] rfl 2 rfl (by show 2≤maxLen;decide) 3);refine (Calls.since_mk ((Since.refl _).alloc _) (Yr (H8.out.keep ((Since.refl _).alloc _)) (SM8.out.mono (by decide)) b (by rw[MV8.out.len];exact HB.out) ⟨2,m7.next,0,[a,m5.next],_,0⟩ AD8.out (Y5 (by decide) ⟨by omega,by omega⟩ ⟨by omega,by omega⟩ ⟨by omega,by omega⟩))).mono ?_;rintro e w9 ⟨m9,⟨rfl,ht⟩,h9,mv9⟩;have H9:=hid h9;have MV9:=hid (MV8.out.trans mv9);have SM9:=hid (SM8.out.mv mv9);have nx9:m8.next≤m9.next:=by rw[ht];exact Int.le_refl _
  clear ht;clear h9 mv9;go_wp2_with fail
  refine (Zz H9.out 4 (by decide) (by have:=SM9.out.1;omega)).mono ?_;rintro e w10 ⟨m10,⟨i,rfl,⟨hI,hH⟩,hr⟩,hB,mv10⟩;have hK:=hid hB;have MV10:=hid (MV9.out.trans mv10);have SM10:=hid (SM9.out.mv mv10);have nx10:m9.next≤m10.next:=by rw[hr];exact Int.le_refl _
  clear hr;clear hB mv10;go_wp2_with fail
  refine (Zz hK.out 12 (by decide) (by have:=SM10.out.1;omega)).mono ?_;rintro e w11 ⟨m11,⟨j,rfl,⟨hG,hF⟩,hq⟩,hA,mv11⟩;have hC:=hid hA;have MV11:=hid (MV10.out.trans mv11);have SM11:=hid (SM10.out.mv mv11);have nx11:m10.next≤m11.next:=by rw[hq];exact Int.le_refl _
  clear hq;clear hA mv11;by_cases ha:j=0
  ·subst ha;go_wp2_with fail
   refine (Wo hC.out (by have:=SM11.out.1;omega)).mono ?_;rintro e w12 ⟨m12,⟨k,rfl,hk,hp⟩,hg,mv12⟩;have hi:=hid hg;have MV12:=hid (MV11.out.trans mv12);have SM12:=hid (SM11.out.mv mv12);have nx12:m11.next≤m12.next:=by rw[hp];exact Int.le_refl _
   clear hp;clear hg mv12;go_wp2_with fail
   refine (Yt hi.out (SM12.out.mono (by decide)) b (by rw[MV12.out.len];exact HB.out)).mono ?_;rintro e w13 ⟨m13,⟨s,rfl,hl,hj⟩,hf,mv13⟩;have hh:=hid hf;have MV13:=hid (MV12.out.trans mv13);have SM13:=hid (SM12.out.mv mv13);have nx13:=mv13.next.1;clear hf mv13;go_wp2_with fail
   have AD13:=zH (Zm _ _ _∧Stays _ _ _) (hh.out.newInts [m7.next,s] #[.int .i64 (m7.next),.int .i64 (s)] rfl 2 rfl (by show 2≤maxLen;decide) 3);refine (Calls.since_mk ((Since.refl _).alloc _) (Yr (hh.out.keep ((Since.refl _).alloc _)) (SM13.out.mono (by decide)) b (by rw[MV13.out.len];exact HB.out) ⟨16,0,0,[m7.next,s],_,k⟩ AD13.out (Vv hk ⟨by omega,by omega⟩ ⟨by omega,by omega⟩))).mono ?_;rintro e w14 ⟨m14,⟨rfl,hn⟩,hz,mv14⟩;have hJ:=hid hz;have MV14:=hid (MV13.out.trans mv14);have SM14:=hid (SM13.out.mv mv14);have nx14:m13.next≤m14.next:=by rw[hn];exact Int.le_refl _
   clear hn;clear hz mv14;go_wp2_with fail
   go_end0
   refine⟨_,?_,hJ.out,MV14.out.more⟩;exact rfl
  ·have hD:(j==0)=false:=by simpa using ha
   clear ha;go_wp2_with fail
   refine (Yt hC.out (SM11.out.mono (by decide)) b (by rw[MV11.out.len];exact HB.out)).mono ?_;rintro e w12 ⟨m12,⟨s,rfl,hl,hj⟩,hg,mv12⟩;have hi:=hid hg;have MV12:=hid (MV11.out.trans mv12);have SM12:=hid (SM11.out.mv mv12);have nx12:=mv12.next.1;clear hg mv12;go_wp2_with fail
   have AD12:=zH (Zm _ _ _∧Stays _ _ _) (hi.out.newInts [m7.next,s] #[.int .i64 (m7.next),.int .i64 (s)] rfl 2 rfl (by show 2≤maxLen;decide) 3);refine (Calls.since_mk ((Since.refl _).alloc _) (Yr (hi.out.keep ((Since.refl _).alloc _)) (SM12.out.mono (by decide)) b (by rw[MV12.out.len];exact HB.out) ⟨16,0,0,[m7.next,s],_,i⟩ AD12.out (Vv (by unfold In32;omega) ⟨by omega,by omega⟩ ⟨by omega,by omega⟩))).mono ?_;rintro e w13 ⟨m13,⟨rfl,ho⟩,hf,mv13⟩;have hh:=hid hf;have MV13:=hid (MV12.out.trans mv13);have SM13:=hid (SM12.out.mv mv13);have nx13:m12.next≤m13.next:=by rw[ho];exact Int.le_refl _
   clear ho;clear hf mv13;go_wp2_with fail
   go_end0
   refine⟨_,?_,hh.out,MV13.out.more⟩;exact rfl
 ·have hP:(q==0)=false:=by simpa using hm
  clear hm;go_wp2_with fail
  refine (Zz H3.out 4 (by decide) (by have:=SM3.out.1;omega)).mono ?_;rintro e w4 ⟨m4,⟨i,rfl,⟨hI,hH⟩,hv⟩,h4,mv4⟩;have H4:=hid h4;have MV4:=hid (MV3.out.trans mv4);have SM4:=hid (SM3.out.mv mv4);have nx4:m3.next≤m4.next:=by rw[hv];exact Int.le_refl _
  clear hv;clear h4 mv4;go_wp2_with fail
  refine (Zz H4.out 12 (by decide) (by have:=SM4.out.1;omega)).mono ?_;rintro e w5 ⟨m5,⟨j,rfl,⟨hG,hF⟩,hu⟩,h5,mv5⟩;have H5:=hid h5;have MV5:=hid (MV4.out.trans mv5);have SM5:=hid (SM4.out.mv mv5);have nx5:m4.next≤m5.next:=by rw[hu];exact Int.le_refl _
  clear hu;clear h5 mv5;by_cases ha:j=0
  ·subst ha;go_wp2_with fail
   refine (Wo H5.out (by have:=SM5.out.1;omega)).mono ?_;rintro e w6 ⟨m6,⟨k,rfl,hk,he⟩,h6,mv6⟩;have H6:=hid h6;have MV6:=hid (MV5.out.trans mv6);have SM6:=hid (SM5.out.mv mv6);have nx6:m5.next≤m6.next:=by rw[he];exact Int.le_refl _
   clear he;clear h6 mv6;go_wp2_with fail
   refine (Yt H6.out (SM6.out.mono (by decide)) b (by rw[MV6.out.len];exact HB.out)).mono ?_;rintro e w7 ⟨m7,⟨s,rfl,hl,hj⟩,h7,mv7⟩;have H7:=hid h7;have MV7:=hid (MV6.out.trans mv7);have SM7:=hid (SM6.out.mv mv7);have nx7:=mv7.next.1;clear h7 mv7;go_wp2_with fail
   have AD7:=zH (Zm _ _ _∧Stays _ _ _) (H7.out.newInts [a,s] #[.int .i64 (a),.int .i64 (s)] rfl 2 rfl (by show 2≤maxLen;decide) 3);refine (Calls.since_mk ((Since.refl _).alloc _) (Yr (H7.out.keep ((Since.refl _).alloc _)) (SM7.out.mono (by decide)) b (by rw[MV7.out.len];exact HB.out) ⟨16,0,0,[a,s],_,k⟩ AD7.out (Vv hk ⟨by omega,by omega⟩ ⟨by omega,by omega⟩))).mono ?_;rintro e w8 ⟨m8,⟨rfl,hc⟩,h8,mv8⟩;have H8:=hid h8;have MV8:=hid (MV7.out.trans mv8);have SM8:=hid (SM7.out.mv mv8);have nx8:m7.next≤m8.next:=by rw[hc];exact Int.le_refl _
   clear hc;clear h8 mv8;go_wp2_with fail
   go_end0
   refine⟨_,?_,H8.out,MV8.out.more⟩;exact rfl
  ·have hD:(j==0)=false:=by simpa using ha
   clear ha;go_wp2_with fail
   refine (Yt H5.out (SM5.out.mono (by decide)) b (by rw[MV5.out.len];exact HB.out)).mono ?_;rintro e w6 ⟨m6,⟨s,rfl,hl,hj⟩,h6,mv6⟩;have H6:=hid h6;have MV6:=hid (MV5.out.trans mv6);have SM6:=hid (SM5.out.mv mv6);have nx6:=mv6.next.1;clear h6 mv6;go_wp2_with fail
   have AD6:=zH (Zm _ _ _∧Stays _ _ _) (H6.out.newInts [a,s] #[.int .i64 (a),.int .i64 (s)] rfl 2 rfl (by show 2≤maxLen;decide) 3);refine (Calls.since_mk ((Since.refl _).alloc _) (Yr (H6.out.keep ((Since.refl _).alloc _)) (SM6.out.mono (by decide)) b (by rw[MV6.out.len];exact HB.out) ⟨16,0,0,[a,s],_,i⟩ AD6.out (Vv (by unfold In32;omega) ⟨by omega,by omega⟩ ⟨by omega,by omega⟩))).mono ?_;rintro e w7 ⟨m7,⟨rfl,hd⟩,h7,mv7⟩;have H7:=hid h7;have MV7:=hid (MV6.out.trans mv7);have SM7:=hid (SM6.out.mv mv7);have nx7:m6.next≤m7.next:=by rw[hd];exact Int.le_refl _
   clear hd;clear h7 mv7;go_wp2_with fail
   go_end0
   refine⟨_,?_,H7.out,MV7.out.more⟩;exact rfl
theorem ZaS (h:MkOk C mb bv sv l m w) (hs:Sm 30 m) (b:Nat) (hb:b<m.bks.length) (store:Bool) :
  Calls Tryz.prog 98 #[.pointer (some ⟨mb,0,none⟩),.int .i64 b,.bool store] w (MkQ C mb bv sv l w m 17 6 7 QP):=by
 cases store
 ·exact ZbH h hs b hb
 ·exact ZbG h hs b hb
end
end Go.Proofs.YtmhojfpidedjeaaGreatDoor
