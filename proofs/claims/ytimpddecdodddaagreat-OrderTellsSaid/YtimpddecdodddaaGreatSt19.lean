import Derived.Test.YtimpddecdodddaaGreatSt13
namespace Go.Proofs.YtimpddecdodddaaGreat
open Go.Proofs.Tryz Go.RowKit Go.Lib
set_option linter.unusedVariables false
set_option maxHeartbeats 4000000
set_option maxRecDepth 100000
theorem jB {P:Prop} (h:P:=by
 clear h7 mv7;go_wp2_with fail
 go_end0
 refine⟨_,?_,H7.out,MV7.out.more⟩;exact rfl):P:=h
theorem jC {P:Prop} (h:P:=by
 clear h8 mv8;go_wp2_with fail
 go_end0
 refine⟨_,?_,H8.out,MV8.out.more⟩;exact rfl):P:=h
theorem kY {P:Prop} (h:P:=by show (-2147483648:Int)≤0∧(0:Int)≤2147483647;decide):P:=h
theorem zad {P:Prop} (h:P:=by rw[MV1.out.len];exact HB.out):P:=h
theorem zae {P:Prop} (h:P:=by rw[MV2.out.len];exact HB.out):P:=h
theorem zaf {P:Prop} (h:P:=by rw[MV3.out.len];exact HB.out):P:=h
theorem zag {P:Prop} (h:P:=by rw[MV4.out.len];exact HB.out):P:=h
theorem zah {P:Prop} (h:P:=by rw[MV6.out.len];exact HB.out):P:=h
theorem zan {P:Prop} (h:P:=by have:=SM5.out.1;omega):P:=h
section
variable {C : Nat→Prop} {mb:Nat} {bv sv:Value} {l : List Int} {m m':Zm} {w w':World}
theorem Sm.mono {k k':Nat} (h:Sm k m) (hk:k≤k'):Sm k' m:=by
 obtain⟨h1,h2,h3,h4⟩:=h;exact⟨zaK,zaK,zaK,zaK⟩
theorem Sm.mv {k a n i:Nat} (h:Sm k m) (v:Mv mb bv w m w' m' a n i) (ha:a≤1000:=by decide) (hn:n≤1000:=by decide) (hi:i≤1000:=by decide):Sm (k+1) m':=by
 obtain⟨h1,h2,h3,h4⟩:=h;have:=v.at_;have:=v.next;have:=v.total;have:=v.live;exact⟨zaK,zaK,zaK,zaK⟩
theorem MkOk.next0 (h:MkOk C mb bv sv l m w):0≤m.next:=by have:=h.good.params;omega
def Zff (m':Zm) (e:Ending):Prop:=∃ v:Int,e=.returned (.int .i64 v)∧0≤v∧v<m'.next
def K9 (m':Zm) (e:Ending):Prop:=e=.returned (.tuple #[])
theorem MkOk.newInts (h:MkOk C mb bv sv l m w) (xs:List Int) (cs:Array Value) (hc:cs=(xs.map (Value.int .i64)).toArray) (n:Nat) (hn:n=xs.length) (hm:xs.length≤maxLen) (T:TypeId):Zd (w.alloc (.cells cs T)) (.slice (some ⟨w.heap.size,0,none⟩) n n) xs∧Stays (ZE C mb bv m) (w.alloc (.cells cs T)) (.slice (some ⟨w.heap.size,0,none⟩) n n):=by
 subst hc;subst hn;refine⟨Wc xs T _ (Nat.le_refl _) hm (ZG _ _) fun j n hj=>?_,h.newStays _ _ _⟩;simp[hj]
theorem Calls.since_mk {f : FuncId} {args:Array Value} {a n i:Nat} {R : Zm→Ending→Prop} (s:Since w w') (h:Calls prog f args w' (MkQ C mb bv sv l w' m a n i R)):Calls prog f args w' (MkQ C mb bv sv l w m a n i R):=
 h.mono fun e w2 ⟨m',h1,h2,h3⟩=>⟨m',h1,h2,Mv.since s h3⟩
theorem Zb8 {N n d:Int} {av:Value} (hn:In32 n) (hd:0≤d∧d<N):Ye N ⟨1,d,0,[],av,n⟩:=
 ⟨hn,fun a ha=>(by cases ha),hd,⟨Int.le_refl _,by show 0<N;omega⟩,.inl ⟨rfl,rfl⟩⟩
theorem ZaR {N a b:Int} (ha:0≤a∧a<N) (hb:0≤b∧b<N):∀ x∈[a,b],0≤x∧x<N:=by
 intro x hx;rcases List.mem_cons.1 hx with rfl|hx
 ·exact ha
 ·obtain rfl:=List.mem_singleton.1 hx;exact hb
theorem Y6 {N op d a b:Int} {av:Value} (ho:2≤op∧op≤14) (ha:0≤a∧a<N) (hb:0≤b∧b<N) (hd:0≤d∧d<N):Ye N ⟨op,d,0,[a,b],av,0⟩:=
 ⟨kY,ZaR ha hb,hd,⟨Int.le_refl _,by show 0<N;omega⟩,.inr (.inl ⟨ho,rfl⟩)⟩
theorem Vs {N d a n:Int} {av:Value} (hn:In32 n) (ha:0≤a∧a<N) (hd:0≤d∧d<N):Ye N ⟨15,d,0,[a],av,n⟩:=
 ⟨hn,fun x hx=>by obtain rfl:=List.mem_singleton.1 hx;exact ha,hd,⟨Int.le_refl _,by show 0<N;omega⟩,.inr (.inr (.inl ⟨rfl,rfl⟩))⟩
theorem WT {N a b n:Int} {av:Value} (hn:In32 n) (ha:0≤a∧a<N) (hb:0≤b∧b<N):Ye N ⟨16,0,0,[a,b],av,n⟩:=
 ⟨hn,ZaR ha hb,⟨Int.le_refl _,by show 0<N;omega⟩,⟨Int.le_refl _,by show 0<N;omega⟩,.inr (.inr (.inr (.inl ⟨rfl,rfl⟩)))⟩
theorem Zdd {N d n:Int} {av:Value} {l : List Int} (hn:In32 n) (hl:∀ a∈l,0≤a∧a<N) (hd:0≤d∧d<N) (h4:l.length≤4):Ye N ⟨17,d,0,l,av,n⟩:=
 ⟨hn,hl,hd,⟨Int.le_refl _,by show 0<N;omega⟩,.inr (.inr (.inr (.inr (.inl ⟨rfl,h4⟩))))⟩
theorem Zdc {N d t a b:Int} {av:Value} (ha:0≤a∧a<N) (hb:0≤b∧b<N) (hd:0≤d∧d<N) (ht:0≤t∧t<N) (hc:d≠t):Ye N ⟨18,d,t,[a,b],av,0⟩:=
 ⟨kY,ZaR ha hb,hd,ht,.inr (.inr (.inr (.inr (.inr ⟨rfl,rfl,hc⟩))))⟩
theorem Yv (h:MkOk C mb bv sv l m w) (hs:Sm 60 m) (b:Nat) (hb:b<m.bks.length) (n:Int) (hn:In32 n) :
  Calls prog 114 #[.pointer (some ⟨mb,0,none⟩),.int .i64 b,.int .i32 n] w (MkQ C mb bv sv l w m 0 1 1 Zff):=by
 obtain⟨m0,hd⟩:∃ x,x=m:=⟨_,rfl⟩
 subst hd;have H0:=hid h;have MV0:=hid (Mv.refl mb bv w m0);have SM0:=hid hs;have HB:=hid hb;have nx0:=h.next0;clear h hs;go_enter func114,ntmps114
 go_wp2_with fail
 refine (Yt H0.out ⟨zaK,by have:=SM0.out.2.1;omega⟩).mono ?_;rintro e w1 ⟨m1,⟨rfl,hc⟩,h1,mv1⟩;have H1:=hid h1;have MV1:=hid (MV0.out.trans mv1);have SM1:=hid (SM0.out.mv mv1);have nx1:m0.next+1≤m1.next:=by rw[hc];exact Int.le_refl _
 clear hc;clear h1 mv1;go_wp2_with fail
 refine (Yz H1.out (SM1.out.mono zaJ) b zad ⟨1,m0.next,0,[],.slice none 0 0,n⟩ ⟨.nil _ _,.nil _ _⟩ (Zb8 hn ⟨zaK,zaK⟩)).mono ?_;rintro e w2 ⟨m2,⟨rfl,ha⟩,h2,mv2⟩;have H2:=hid h2;have MV2:=hid (MV1.out.trans mv2);have SM2:=hid (SM1.out.mv mv2);have nx2:m1.next≤m2.next:=by rw[ha];exact Int.le_refl _
 clear ha;clear h2 mv2;go_wp2_with fail
 go_ret
 refine⟨_,?_,H2.out,MV2.out.more⟩;exact⟨_,rfl,zaK,zaK⟩
theorem YC (h:MkOk C mb bv sv l m w) (hs:Sm 50 m) (b:Nat) (hb:b<m.bks.length) :
  Calls prog 143 #[.pointer (some ⟨mb,0,none⟩),.int .i64 b] w (MkQ C mb bv sv l w m 5 1 1 Zff):=by
 obtain⟨m0,hj⟩:∃ x,x=m:=⟨_,rfl⟩
 subst hj;have H0:=hid h;have MV0:=hid (Mv.refl mb bv w m0);have SM0:=hid hs;have HB:=hid hb;have nx0:=h.next0;clear h hs;go_enter func143,ntmps143
 go_wp2_with fail
 refine (ZdL H0.out (SM0.out.mono zaJ)).mono ?_;rintro e w1 ⟨m1,⟨v,ok,a0,rfl,hv,hn,hh⟩,h1,mv1⟩;have H1:=hid h1;have MV1:=hid (MV0.out.trans mv1);have SM1:=hid (SM0.out.mv mv1);have nx1:m0.next≤m1.next:=by rw[hh];exact Int.le_refl _
 clear hh;clear h1 mv1
 cases ok
 ·go_wp2_with fail
  refine (Wh H1.out (by have:=SM1.out.1;omega)).mono ?_;rintro e w2 ⟨m2,⟨c,rfl,hc,ha⟩,h2,mv2⟩;have H2:=hid h2;have MV2:=hid (MV1.out.trans mv2);have SM2:=hid (SM1.out.mv mv2);have nx2:m1.next≤m2.next:=by rw[ha];exact Int.le_refl _
  clear ha;clear h2 mv2;go_wp2_with fail
  refine (Yv H2.out (SM2.out.mono zaJ) b zae (c) hc).mono ?_;rintro e w3 ⟨m3,⟨r,rfl,he,hd⟩,h3,mv3⟩;have H3:=hid h3;have MV3:=hid (MV2.out.trans mv3);have SM3:=hid (SM2.out.mv mv3);have nx3:=mv3.next.1;clear h3 mv3;go_wp2_with fail
  go_ret
  refine⟨_,?_,H3.out,MV3.out.more⟩;exact⟨r,rfl,he,hd⟩
 ·have hi:=hv rfl;clear hv;go_wp2_with fail
  refine (ZF H1.out 9 zaJ (by have:=SM1.out.1;omega)).mono ?_;rintro e w2 ⟨m2,⟨y,rfl,⟨hl,hk⟩,ha⟩,h2,mv2⟩;have H2:=hid h2;have MV2:=hid (MV1.out.trans mv2);have SM2:=hid (SM1.out.mv mv2);have nx2:m1.next≤m2.next:=by rw[ha];exact Int.le_refl _
  clear ha;clear h2 mv2;by_cases hf:y=0
  ·subst hf;go_wp2_with fail
   refine (Wh H2.out zam).mono ?_;rintro e w3 ⟨m3,⟨c,rfl,hc,hg⟩,h3,mv3⟩;have H3:=hid h3;have MV3:=hid (MV2.out.trans mv3);have SM3:=hid (SM2.out.mv mv3);have nx3:m2.next≤m3.next:=by rw[hg];exact Int.le_refl _
   clear hg;clear h3 mv3;go_wp2_with fail
   refine (Yv H3.out (SM3.out.mono zaJ) b zaf (c) hc).mono ?_;rintro e w4 ⟨m4,⟨r,rfl,he,hd⟩,h4,mv4⟩;have H4:=hid h4;have MV4:=hid (MV3.out.trans mv4);have SM4:=hid (SM3.out.mv mv4);have nx4:=mv4.next.1;clear h4 mv4;go_wp2_with fail
   go_ret
   refine⟨_,?_,H4.out,MV4.out.more⟩;exact⟨r,rfl,he,hd⟩
  ·have hm:(y==0)=false:=by simpa using hf
   clear hf;go_wp2_with fail
   go_ret
   refine⟨_,?_,H2.out,MV2.out.more⟩;exact⟨v,rfl,hi.1,zaK⟩
end
section
variable {C : Nat→Prop} {mb:Nat} {bv sv:Value} {l : List Int} {m m':Zm} {w w':World}
theorem ZaH (h:MkOk C mb bv sv l m w) (hs:Sm 30 m) (b:Nat) (hb:b<m.bks.length) :
  Calls prog 145 #[.pointer (some ⟨mb,0,none⟩),.int .i64 b,.bool false] w (MkQ C mb bv sv l w m 17 6 7 K9):=by
 obtain⟨m0,hB⟩:∃ x,x=m:=⟨_,rfl⟩
 subst hB;have H0:=hid h;have MV0:=hid (Mv.refl mb bv w m0);have SM0:=hid hs;have HB:=hid hb;have nx0:=h.next0;clear h hs;go_enter func145,ntmps145
 go_wp2_with fail
 refine (ZF H0.out 9 zaJ zal).mono ?_;rintro e w1 ⟨m1,⟨t,rfl,⟨hL,hK⟩,hv⟩,h1,mv1⟩;have H1:=hid h1;have MV1:=hid (MV0.out.trans mv1);have SM1:=hid (SM0.out.mv mv1);have nx1:m0.next≤m1.next:=by rw[hv];exact Int.le_refl _
 clear hv;clear h1 mv1;go_wp2_with fail
 refine (Yv H1.out (SM1.out.mono zaJ) b zad (t) zas).mono ?_;rintro e w2 ⟨m2,⟨a,rfl,hS,hR⟩,h2,mv2⟩;have H2:=hid h2;have MV2:=hid (MV1.out.trans mv2);have SM2:=hid (SM1.out.mv mv2);have nx2:=mv2.next.1;clear h2 mv2;go_wp2_with fail
 refine (ZF H2.out 3 zaJ zam).mono ?_;rintro e w3 ⟨m3,⟨q,rfl,⟨hO,hN⟩,hu⟩,h3,mv3⟩;have H3:=hid h3;have MV3:=hid (MV2.out.trans mv3);have SM3:=hid (SM2.out.mv mv3);have nx3:m2.next≤m3.next:=by rw[hu];exact Int.le_refl _
 clear hu;clear h3 mv3;by_cases hm:q=0
 ·subst hm;go_wp2_with fail
  refine (YC H3.out (SM3.out.mono zaJ) b zaf).mono ?_;rintro e w4 ⟨m4,⟨c,rfl,hQ,hP⟩,h4,mv4⟩;have H4:=hid h4;have MV4:=hid (MV3.out.trans mv4);have SM4:=hid (SM3.out.mv mv4);have nx4:=mv4.next.1;clear h4 mv4;go_wp2_with fail
  refine (Yv H4.out (SM4.out.mono zaJ) b zag (7) zar).mono ?_;rintro e w5 ⟨m5,⟨s7,rfl,hJ,hI⟩,h5,mv5⟩;have H5:=hid h5;have MV5:=hid (MV4.out.trans mv5);have SM5:=hid (SM4.out.mv mv5);have nx5:=mv5.next.1;clear h5 mv5;go_wp2_with fail
  refine (Yt H5.out ⟨zaK,by have:=SM5.out.2.1;omega⟩).mono ?_;rintro e w6 ⟨m6,⟨rfl,hc⟩,h6,mv6⟩;have H6:=hid h6;have MV6:=hid (MV5.out.trans mv6);have SM6:=hid (SM5.out.mv mv6);have nx6:m5.next+1≤m6.next:=by rw[hc];exact Int.le_refl _
  clear hc;clear h6 mv6;go_wp2_with fail
  have AD6:=zH (Zd _ _ _∧Stays _ _ _) (H6.out.newInts [c,s7] #[.int .i64 (c),.int .i64 (s7)] rfl 2 rfl zao 3);refine (Calls.since_mk ((Since.refl _).alloc _) (Yz (H6.out.keep ((Since.refl _).alloc _)) (SM6.out.mono zaJ) b zah ⟨5,m5.next,0,[c,s7],_,0⟩ AD6.out (Y6 zaJ ⟨zaK,zaK⟩ ⟨zaK,zaK⟩ ⟨zaK,zaK⟩))).mono ?_;rintro e w7 ⟨m7,⟨rfl,ha⟩,h7,mv7⟩;have H7:=hid h7;have MV7:=hid (MV6.out.trans mv7);have SM7:=hid (SM6.out.mv mv7);have nx7:m6.next≤m7.next:=by rw[ha];exact Int.le_refl _
  clear ha;clear h7 mv7;go_wp2_with fail
  refine (Yt H7.out ⟨zaK,by have:=SM7.out.2.1;omega⟩).mono ?_;rintro e w8 ⟨m8,⟨rfl,hg⟩,h8,mv8⟩;have H8:=hid h8;have MV8:=hid (MV7.out.trans mv8);have SM8:=hid (SM7.out.mv mv8);have nx8:m7.next+1≤m8.next:=by rw[hg];exact Int.le_refl _
  clear hg;clear h8 mv8;go_wp2_with fail
  have AD8:=zH (Zd _ _ _∧Stays _ _ _) (H8.out.newInts [a,m5.next] #[.int .i64 (a),.int .i64 (m5.next)] rfl 2 rfl zao 3);refine (Calls.since_mk ((Since.refl _).alloc _) (Yz (H8.out.keep ((Since.refl _).alloc _)) (SM8.out.mono zaJ) b (by rw[MV8.out.len];exact HB.out) ⟨2,m7.next,0,[a,m5.next],_,0⟩ AD8.out (Y6 zaJ ⟨zaK,zaK⟩ ⟨zaK,zaK⟩ ⟨zaK,zaK⟩))).mono ?_;rintro e w9 ⟨m9,⟨rfl,hq⟩,h9,mv9⟩;have H9:=hid h9;have MV9:=hid (MV8.out.trans mv9);have SM9:=hid (SM8.out.mv mv9);have nx9:m8.next≤m9.next:=by rw[hq];exact Int.le_refl _
  clear hq;clear h9 mv9;go_wp2_with fail
  refine (ZF H9.out 4 zaJ (by have:=SM9.out.1;omega)).mono ?_;rintro e w10 ⟨m10,⟨i,rfl,⟨hF,hE⟩,hp⟩,hy,mv10⟩;have hH:=hid hy;have MV10:=hid (MV9.out.trans mv10);have SM10:=hid (SM9.out.mv mv10);have nx10:m9.next≤m10.next:=by rw[hp];exact Int.le_refl _
  clear hp;clear hy mv10;go_wp2_with fail
  refine (ZF hH.out 12 zaJ (by have:=SM10.out.1;omega)).mono ?_;rintro e w11 ⟨m11,⟨j,rfl,⟨hD,hC⟩,ho⟩,hx,mv11⟩;have hz:=hid hx;have MV11:=hid (MV10.out.trans mv11);have SM11:=hid (SM10.out.mv mv11);have nx11:m10.next≤m11.next:=by rw[ho];exact Int.le_refl _
  clear ho;clear hx mv11;by_cases hd:j=0
  ·subst hd;go_wp2_with fail
   refine (Wh hz.out (by have:=SM11.out.1;omega)).mono ?_;rintro e w12 ⟨m12,⟨k,rfl,hk,hf⟩,hi,mv12⟩;have hl:=hid hi;have MV12:=hid (MV11.out.trans mv12);have SM12:=hid (SM11.out.mv mv12);have nx12:m11.next≤m12.next:=by rw[hf];exact Int.le_refl _
   clear hf;clear hi mv12;go_wp2_with fail
   refine (Yt hl.out ⟨zaK,by have:=SM12.out.2.1;omega⟩).mono ?_;rintro e w13 ⟨m13,⟨rfl,he⟩,hh,mv13⟩;have hj:=hid hh;have MV13:=hid (MV12.out.trans mv13);have SM13:=hid (SM12.out.mv mv13);have nx13:m12.next+1≤m13.next:=by rw[he];exact Int.le_refl _
   clear he;clear hh mv13;go_wp2_with fail
   have AD13:=zH (Zd _ _ _∧Stays _ _ _) (hj.out.newInts [m7.next] #[.int .i64 (m7.next)] rfl 1 rfl zap 3);refine (Calls.since_mk ((Since.refl _).alloc _) (Yz (hj.out.keep ((Since.refl _).alloc _)) (SM13.out.mono zaJ) b (by rw[MV13.out.len];exact HB.out) ⟨15,m12.next,0,[m7.next],_,k⟩ AD13.out (Vs hk ⟨zaK,zaK⟩ ⟨zaK,zaK⟩))).mono ?_;rintro e w14 ⟨m14,⟨rfl,hn⟩,hw,mv14⟩;have hG:=hid hw;have MV14:=hid (MV13.out.trans mv14);have SM14:=hid (SM13.out.mv mv14);have nx14:m13.next≤m14.next:=by rw[hn];exact Int.le_refl _
   clear hn;clear hw mv14;go_wp2_with fail
   go_end0
   refine⟨_,?_,hG.out,MV14.out.more⟩;exact rfl
  ·have hA:(j==0)=false:=by simpa using hd
   clear hd;go_wp2_with fail
   refine (Yt hz.out ⟨zaK,by have:=SM11.out.2.1;omega⟩).mono ?_;rintro e w12 ⟨m12,⟨rfl,hf⟩,hi,mv12⟩;have hl:=hid hi;have MV12:=hid (MV11.out.trans mv12);have SM12:=hid (SM11.out.mv mv12);have nx12:m11.next+1≤m12.next:=by rw[hf];exact Int.le_refl _
   clear hf;clear hi mv12;go_wp2_with fail
   have AD12:=zH (Zd _ _ _∧Stays _ _ _) (hl.out.newInts [m7.next] #[.int .i64 (m7.next)] rfl 1 rfl zap 3);refine (Calls.since_mk ((Since.refl _).alloc _) (Yz (hl.out.keep ((Since.refl _).alloc _)) (SM12.out.mono zaJ) b (by rw[MV12.out.len];exact HB.out) ⟨15,m11.next,0,[m7.next],_,i⟩ AD12.out (Vs zas ⟨zaK,zaK⟩ ⟨zaK,zaK⟩))).mono ?_;rintro e w13 ⟨m13,⟨rfl,he⟩,hh,mv13⟩;have hj:=hid hh;have MV13:=hid (MV12.out.trans mv13);have SM13:=hid (SM12.out.mv mv13);have nx13:m12.next≤m13.next:=by rw[he];exact Int.le_refl _
   clear he;clear hh mv13;go_wp2_with fail
   go_end0
   refine⟨_,?_,hj.out,MV13.out.more⟩;exact rfl
 ·have hM:(q==0)=false:=by simpa using hm
  clear hm;go_wp2_with fail
  refine (ZF H3.out 4 zaJ (by have:=SM3.out.1;omega)).mono ?_;rintro e w4 ⟨m4,⟨i,rfl,⟨hF,hE⟩,ht⟩,h4,mv4⟩;have H4:=hid h4;have MV4:=hid (MV3.out.trans mv4);have SM4:=hid (SM3.out.mv mv4);have nx4:m3.next≤m4.next:=by rw[ht];exact Int.le_refl _
  clear ht;clear h4 mv4;go_wp2_with fail
  refine (ZF H4.out 12 zaJ (by have:=SM4.out.1;omega)).mono ?_;rintro e w5 ⟨m5,⟨j,rfl,⟨hD,hC⟩,hr⟩,h5,mv5⟩;have H5:=hid h5;have MV5:=hid (MV4.out.trans mv5);have SM5:=hid (SM4.out.mv mv5);have nx5:m4.next≤m5.next:=by rw[hr];exact Int.le_refl _
  clear hr;clear h5 mv5;by_cases hd:j=0
  ·subst hd;go_wp2_with fail
   refine (Wh H5.out zan).mono ?_;rintro e w6 ⟨m6,⟨k,rfl,hk,hc⟩,h6,mv6⟩;have H6:=hid h6;have MV6:=hid (MV5.out.trans mv6);have SM6:=hid (SM5.out.mv mv6);have nx6:m5.next≤m6.next:=by rw[hc];exact Int.le_refl _
   clear hc;clear h6 mv6;go_wp2_with fail
   refine (Yt H6.out ⟨zaK,by have:=SM6.out.2.1;omega⟩).mono ?_;rintro e w7 ⟨m7,⟨rfl,ha⟩,h7,mv7⟩;have H7:=hid h7;have MV7:=hid (MV6.out.trans mv7);have SM7:=hid (SM6.out.mv mv7);have nx7:m6.next+1≤m7.next:=by rw[ha];exact Int.le_refl _
   clear ha;clear h7 mv7;go_wp2_with fail
   have AD7:=zH (Zd _ _ _∧Stays _ _ _) (H7.out.newInts [a] #[.int .i64 (a)] rfl 1 rfl zap 3);refine (Calls.since_mk ((Since.refl _).alloc _) (Yz (H7.out.keep ((Since.refl _).alloc _)) (SM7.out.mono zaJ) b (by rw[MV7.out.len];exact HB.out) ⟨15,m6.next,0,[a],_,k⟩ AD7.out (Vs hk ⟨zaK,zaK⟩ ⟨zaK,zaK⟩))).mono ?_;rintro e w8 ⟨m8,⟨rfl,hg⟩,h8,mv8⟩;have H8:=hid h8;have MV8:=hid (MV7.out.trans mv8);have SM8:=hid (SM7.out.mv mv8);have nx8:m7.next≤m8.next:=by rw[hg];exact Int.le_refl _
   clear hg;exact jC
  ·have hA:(j==0)=false:=by simpa using hd
   clear hd;go_wp2_with fail
   refine (Yt H5.out ⟨zaK,by have:=SM5.out.2.1;omega⟩).mono ?_;rintro e w6 ⟨m6,⟨rfl,hc⟩,h6,mv6⟩;have H6:=hid h6;have MV6:=hid (MV5.out.trans mv6);have SM6:=hid (SM5.out.mv mv6);have nx6:m5.next+1≤m6.next:=by rw[hc];exact Int.le_refl _
   clear hc;clear h6 mv6;go_wp2_with fail
   have AD6:=zH (Zd _ _ _∧Stays _ _ _) (H6.out.newInts [a] #[.int .i64 (a)] rfl 1 rfl zap 3);refine (Calls.since_mk ((Since.refl _).alloc _) (Yz (H6.out.keep ((Since.refl _).alloc _)) (SM6.out.mono zaJ) b zah ⟨15,m5.next,0,[a],_,i⟩ AD6.out (Vs zas ⟨zaK,zaK⟩ ⟨zaK,zaK⟩))).mono ?_;rintro e w7 ⟨m7,⟨rfl,ha⟩,h7,mv7⟩;have H7:=hid h7;have MV7:=hid (MV6.out.trans mv7);have SM7:=hid (SM6.out.mv mv7);have nx7:m6.next≤m7.next:=by rw[ha];exact Int.le_refl _
   clear ha;exact jB
theorem ZaG (h:MkOk C mb bv sv l m w) (hs:Sm 30 m) (b:Nat) (hb:b<m.bks.length) :
  Calls prog 145 #[.pointer (some ⟨mb,0,none⟩),.int .i64 b,.bool true] w (MkQ C mb bv sv l w m 17 6 7 K9):=by
 obtain⟨m0,hD⟩:∃ x,x=m:=⟨_,rfl⟩
 subst hD;have H0:=hid h;have MV0:=hid (Mv.refl mb bv w m0);have SM0:=hid hs;have HB:=hid hb;have nx0:=h.next0;clear h hs;go_enter func145,ntmps145
 go_wp2_with fail
 refine (ZF H0.out 9 zaJ zal).mono ?_;rintro e w1 ⟨m1,⟨t,rfl,⟨hN,hM⟩,hx⟩,h1,mv1⟩;have H1:=hid h1;have MV1:=hid (MV0.out.trans mv1);have SM1:=hid (SM0.out.mv mv1);have nx1:m0.next≤m1.next:=by rw[hx];exact Int.le_refl _
 clear hx;clear h1 mv1;go_wp2_with fail
 refine (Yv H1.out (SM1.out.mono zaJ) b zad (t) zas).mono ?_;rintro e w2 ⟨m2,⟨a,rfl,hU,hT⟩,h2,mv2⟩;have H2:=hid h2;have MV2:=hid (MV1.out.trans mv2);have SM2:=hid (SM1.out.mv mv2);have nx2:=mv2.next.1;clear h2 mv2;go_wp2_with fail
 refine (ZF H2.out 3 zaJ zam).mono ?_;rintro e w3 ⟨m3,⟨q,rfl,⟨hQ,hP⟩,hw⟩,h3,mv3⟩;have H3:=hid h3;have MV3:=hid (MV2.out.trans mv3);have SM3:=hid (SM2.out.mv mv3);have nx3:m2.next≤m3.next:=by rw[hw];exact Int.le_refl _
 clear hw;clear h3 mv3;by_cases hm:q=0
 ·subst hm;go_wp2_with fail
  refine (YC H3.out (SM3.out.mono zaJ) b zaf).mono ?_;rintro e w4 ⟨m4,⟨c,rfl,hS,hR⟩,h4,mv4⟩;have H4:=hid h4;have MV4:=hid (MV3.out.trans mv4);have SM4:=hid (SM3.out.mv mv4);have nx4:=mv4.next.1;clear h4 mv4;go_wp2_with fail
  refine (Yv H4.out (SM4.out.mono zaJ) b zag (7) zar).mono ?_;rintro e w5 ⟨m5,⟨s7,rfl,hL,hK⟩,h5,mv5⟩;have H5:=hid h5;have MV5:=hid (MV4.out.trans mv5);have SM5:=hid (SM4.out.mv mv5);have nx5:=mv5.next.1;clear h5 mv5;go_wp2_with fail
  refine (Yt H5.out ⟨zaK,by have:=SM5.out.2.1;omega⟩).mono ?_;rintro e w6 ⟨m6,⟨rfl,he⟩,h6,mv6⟩;have H6:=hid h6;have MV6:=hid (MV5.out.trans mv6);have SM6:=hid (SM5.out.mv mv6);have nx6:m5.next+1≤m6.next:=by rw[he];exact Int.le_refl _
  clear he;clear h6 mv6;go_wp2_with fail
  have AD6:=zH (Zd _ _ _∧Stays _ _ _) (H6.out.newInts [c,s7] #[.int .i64 (c),.int .i64 (s7)] rfl 2 rfl zao 3);refine (Calls.since_mk ((Since.refl _).alloc _) (Yz (H6.out.keep ((Since.refl _).alloc _)) (SM6.out.mono zaJ) b zah ⟨5,m5.next,0,[c,s7],_,0⟩ AD6.out (Y6 zaJ ⟨zaK,zaK⟩ ⟨zaK,zaK⟩ ⟨zaK,zaK⟩))).mono ?_;rintro e w7 ⟨m7,⟨rfl,hd⟩,h7,mv7⟩;have H7:=hid h7;have MV7:=hid (MV6.out.trans mv7);have SM7:=hid (SM6.out.mv mv7);have nx7:m6.next≤m7.next:=by rw[hd];exact Int.le_refl _
  clear hd;clear h7 mv7;go_wp2_with fail
  refine (Yt H7.out ⟨zaK,by have:=SM7.out.2.1;omega⟩).mono ?_;rintro e w8 ⟨m8,⟨rfl,hc⟩,h8,mv8⟩;have H8:=hid h8;have MV8:=hid (MV7.out.trans mv8);have SM8:=hid (SM7.out.mv mv8);have nx8:m7.next+1≤m8.next:=by rw[hc];exact Int.le_refl _
  clear hc;clear h8 mv8;go_wp2_with fail
  have AD8:=zH (Zd _ _ _∧Stays _ _ _) (H8.out.newInts [a,m5.next] #[.int .i64 (a),.int .i64 (m5.next)] rfl 2 rfl zao 3);refine (Calls.since_mk ((Since.refl _).alloc _) (Yz (H8.out.keep ((Since.refl _).alloc _)) (SM8.out.mono zaJ) b (by rw[MV8.out.len];exact HB.out) ⟨2,m7.next,0,[a,m5.next],_,0⟩ AD8.out (Y6 zaJ ⟨zaK,zaK⟩ ⟨zaK,zaK⟩ ⟨zaK,zaK⟩))).mono ?_;rintro e w9 ⟨m9,⟨rfl,ht⟩,h9,mv9⟩;have H9:=hid h9;have MV9:=hid (MV8.out.trans mv9);have SM9:=hid (SM8.out.mv mv9);have nx9:m8.next≤m9.next:=by rw[ht];exact Int.le_refl _
  clear ht;clear h9 mv9;go_wp2_with fail
  refine (ZF H9.out 4 zaJ (by have:=SM9.out.1;omega)).mono ?_;rintro e w10 ⟨m10,⟨i,rfl,⟨hH,hG⟩,hr⟩,hA,mv10⟩;have hJ:=hid hA;have MV10:=hid (MV9.out.trans mv10);have SM10:=hid (SM9.out.mv mv10);have nx10:m9.next≤m10.next:=by rw[hr];exact Int.le_refl _
  clear hr;clear hA mv10;go_wp2_with fail
  refine (ZF hJ.out 12 zaJ (by have:=SM10.out.1;omega)).mono ?_;rintro e w11 ⟨m11,⟨j,rfl,⟨hF,hE⟩,hq⟩,hz,mv11⟩;have hB:=hid hz;have MV11:=hid (MV10.out.trans mv11);have SM11:=hid (SM10.out.mv mv11);have nx11:m10.next≤m11.next:=by rw[hq];exact Int.le_refl _
  clear hq;clear hz mv11;by_cases ha:j=0
  ·subst ha;go_wp2_with fail
   refine (Wh hB.out (by have:=SM11.out.1;omega)).mono ?_;rintro e w12 ⟨m12,⟨k,rfl,hk,hp⟩,hg,mv12⟩;have hi:=hid hg;have MV12:=hid (MV11.out.trans mv12);have SM12:=hid (SM11.out.mv mv12);have nx12:m11.next≤m12.next:=by rw[hp];exact Int.le_refl _
   clear hp;clear hg mv12;go_wp2_with fail
   refine (YC hi.out (SM12.out.mono zaJ) b (by rw[MV12.out.len];exact HB.out)).mono ?_;rintro e w13 ⟨m13,⟨s,rfl,hl,hj⟩,hf,mv13⟩;have hh:=hid hf;have MV13:=hid (MV12.out.trans mv13);have SM13:=hid (SM12.out.mv mv13);have nx13:=mv13.next.1;clear hf mv13;go_wp2_with fail
   have AD13:=zH (Zd _ _ _∧Stays _ _ _) (hh.out.newInts [m7.next,s] #[.int .i64 (m7.next),.int .i64 (s)] rfl 2 rfl zao 3);refine (Calls.since_mk ((Since.refl _).alloc _) (Yz (hh.out.keep ((Since.refl _).alloc _)) (SM13.out.mono zaJ) b (by rw[MV13.out.len];exact HB.out) ⟨16,0,0,[m7.next,s],_,k⟩ AD13.out (WT hk ⟨zaK,zaK⟩ ⟨zaK,zaK⟩))).mono ?_;rintro e w14 ⟨m14,⟨rfl,hn⟩,hy,mv14⟩;have hI:=hid hy;have MV14:=hid (MV13.out.trans mv14);have SM14:=hid (SM13.out.mv mv14);have nx14:m13.next≤m14.next:=by rw[hn];exact Int.le_refl _
   clear hn;clear hy mv14;go_wp2_with fail
   go_end0
   refine⟨_,?_,hI.out,MV14.out.more⟩;exact rfl
  ·have hC:(j==0)=false:=by simpa using ha
   clear ha;go_wp2_with fail
   refine (YC hB.out (SM11.out.mono zaJ) b (by rw[MV11.out.len];exact HB.out)).mono ?_;rintro e w12 ⟨m12,⟨s,rfl,hl,hj⟩,hg,mv12⟩;have hi:=hid hg;have MV12:=hid (MV11.out.trans mv12);have SM12:=hid (SM11.out.mv mv12);have nx12:=mv12.next.1;clear hg mv12;go_wp2_with fail
   have AD12:=zH (Zd _ _ _∧Stays _ _ _) (hi.out.newInts [m7.next,s] #[.int .i64 (m7.next),.int .i64 (s)] rfl 2 rfl zao 3);refine (Calls.since_mk ((Since.refl _).alloc _) (Yz (hi.out.keep ((Since.refl _).alloc _)) (SM12.out.mono zaJ) b (by rw[MV12.out.len];exact HB.out) ⟨16,0,0,[m7.next,s],_,i⟩ AD12.out (WT zas ⟨zaK,zaK⟩ ⟨zaK,zaK⟩))).mono ?_;rintro e w13 ⟨m13,⟨rfl,ho⟩,hf,mv13⟩;have hh:=hid hf;have MV13:=hid (MV12.out.trans mv13);have SM13:=hid (SM12.out.mv mv13);have nx13:m12.next≤m13.next:=by rw[ho];exact Int.le_refl _
   clear ho;clear hf mv13;go_wp2_with fail
   go_end0
   refine⟨_,?_,hh.out,MV13.out.more⟩;exact rfl
 ·have hO:(q==0)=false:=by simpa using hm
  clear hm;go_wp2_with fail
  refine (ZF H3.out 4 zaJ (by have:=SM3.out.1;omega)).mono ?_;rintro e w4 ⟨m4,⟨i,rfl,⟨hH,hG⟩,hv⟩,h4,mv4⟩;have H4:=hid h4;have MV4:=hid (MV3.out.trans mv4);have SM4:=hid (SM3.out.mv mv4);have nx4:m3.next≤m4.next:=by rw[hv];exact Int.le_refl _
  clear hv;clear h4 mv4;go_wp2_with fail
  refine (ZF H4.out 12 zaJ (by have:=SM4.out.1;omega)).mono ?_;rintro e w5 ⟨m5,⟨j,rfl,⟨hF,hE⟩,hu⟩,h5,mv5⟩;have H5:=hid h5;have MV5:=hid (MV4.out.trans mv5);have SM5:=hid (SM4.out.mv mv5);have nx5:m4.next≤m5.next:=by rw[hu];exact Int.le_refl _
  clear hu;clear h5 mv5;by_cases ha:j=0
  ·subst ha;go_wp2_with fail
   refine (Wh H5.out zan).mono ?_;rintro e w6 ⟨m6,⟨k,rfl,hk,he⟩,h6,mv6⟩;have H6:=hid h6;have MV6:=hid (MV5.out.trans mv6);have SM6:=hid (SM5.out.mv mv6);have nx6:m5.next≤m6.next:=by rw[he];exact Int.le_refl _
   clear he;clear h6 mv6;go_wp2_with fail
   refine (YC H6.out (SM6.out.mono zaJ) b zah).mono ?_;rintro e w7 ⟨m7,⟨s,rfl,hl,hj⟩,h7,mv7⟩;have H7:=hid h7;have MV7:=hid (MV6.out.trans mv7);have SM7:=hid (SM6.out.mv mv7);have nx7:=mv7.next.1;clear h7 mv7;go_wp2_with fail
   have AD7:=zH (Zd _ _ _∧Stays _ _ _) (H7.out.newInts [a,s] #[.int .i64 (a),.int .i64 (s)] rfl 2 rfl zao 3);refine (Calls.since_mk ((Since.refl _).alloc _) (Yz (H7.out.keep ((Since.refl _).alloc _)) (SM7.out.mono zaJ) b (by rw[MV7.out.len];exact HB.out) ⟨16,0,0,[a,s],_,k⟩ AD7.out (WT hk ⟨zaK,zaK⟩ ⟨zaK,zaK⟩))).mono ?_;rintro e w8 ⟨m8,⟨rfl,hc⟩,h8,mv8⟩;have H8:=hid h8;have MV8:=hid (MV7.out.trans mv8);have SM8:=hid (SM7.out.mv mv8);have nx8:m7.next≤m8.next:=by rw[hc];exact Int.le_refl _
   clear hc;exact jC
  ·have hC:(j==0)=false:=by simpa using ha
   clear ha;go_wp2_with fail
   refine (YC H5.out (SM5.out.mono zaJ) b (by rw[MV5.out.len];exact HB.out)).mono ?_;rintro e w6 ⟨m6,⟨s,rfl,hl,hj⟩,h6,mv6⟩;have H6:=hid h6;have MV6:=hid (MV5.out.trans mv6);have SM6:=hid (SM5.out.mv mv6);have nx6:=mv6.next.1;clear h6 mv6;go_wp2_with fail
   have AD6:=zH (Zd _ _ _∧Stays _ _ _) (H6.out.newInts [a,s] #[.int .i64 (a),.int .i64 (s)] rfl 2 rfl zao 3);refine (Calls.since_mk ((Since.refl _).alloc _) (Yz (H6.out.keep ((Since.refl _).alloc _)) (SM6.out.mono zaJ) b zah ⟨16,0,0,[a,s],_,i⟩ AD6.out (WT zas ⟨zaK,zaK⟩ ⟨zaK,zaK⟩))).mono ?_;rintro e w7 ⟨m7,⟨rfl,hd⟩,h7,mv7⟩;have H7:=hid h7;have MV7:=hid (MV6.out.trans mv7);have SM7:=hid (SM6.out.mv mv7);have nx7:m6.next≤m7.next:=by rw[hd];exact Int.le_refl _
   clear hd;exact jB
theorem QR (h:MkOk C mb bv sv l m w) (hs:Sm 30 m) (b:Nat) (hb:b<m.bks.length) (store:Bool) :
  Calls prog 145 #[.pointer (some ⟨mb,0,none⟩),.int .i64 b,.bool store] w (MkQ C mb bv sv l w m 17 6 7 K9):=by
 cases store
 ·exact ZaH h hs b hb
 ·exact ZaG h hs b hb
end
end Go.Proofs.YtimpddecdodddaaGreat
