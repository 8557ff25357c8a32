import Derived.Test.YtimpddecdodddaaGreatSt16
namespace Go.Proofs.YtimpddecdodddaaGreat
open Go.Proofs.Tryz Go.RowKit Go.Lib
set_option linter.unusedVariables false
set_option maxHeartbeats 1000000
set_option maxRecDepth 100000
theorem zj {P:Prop} (h:P:=by
 skip
 have hd:HeapIs w2 xb #[_,_,_,_,_] 180:=A2.out.box;dsimp only at hd;have hf:=hd.cell 4;have he:=hd.lt;clear hd;go_upto_region 6 with fail
 clear hf he;go_wp2_with fail
 have hy:0≤m2.next∧m2.next<9000:=by have:=SM2.out.2.1;omega
 refine (Xb H2.out ⟨hy.1,by omega⟩).mono ?_;rintro e w3 ⟨m3,⟨rfl,hu⟩,h3,mv3⟩;have H3:=hid h3;have MV3:=hid (MV2.out.trans mv3);have SM3:=hid (SM2.out.mv mv3);have A3:=hid (A2.out.mv mv3);clear h3 mv3 hu;have hd:HeapIs w3 xb #[_,_,_,_,_] 180:=A3.out.box;dsimp only at hd;have hf:=hd.cell 4;have he:=hd.lt;clear hd;go_wp2_with fail
 clear hf he;refine (XZ H3.out (SM3.out.mono (by decide)) (m2.next) (by omega) (imm) hj).mono ?_;rintro e w4 ⟨m4,rfl,h4,mv4⟩;have H4:=hid h4;have MV4:=hid (MV3.out.trans mv4);have SM4:=hid (SM3.out.mv mv4);have A4:=hid (A3.out.mv mv4);clear h4 mv4;have hd:HeapIs w4 xb #[_,_,_,_,_] 180:=A4.out.box;dsimp only at hd;have hh:=hd.cell 0;have hm:=hd.cell 3;have he:=hd.lt;obtain⟨hp,hi⟩:=A4.out.at (j:=1) rfl (show _=some b from rfl);clear hd;go_wp2_with fail
 clear hh hm he hp hi;refine (Yu H4.out (SM4.out.mono (by decide)) ⟨⟨27,0,0,c,m2.next,b,0,[]⟩,.slice none 0 0⟩ ⟨.nil _ _,Stays.nil _ _⟩ (fun q hq=>by cases hq) (YN (by unfold In32;omega) (by omega) (by omega) (by omega) (by omega) (by omega) (by omega))).mono ?_;rintro e w5 ⟨m5,⟨rfl,ht,hr⟩,h5,mv5⟩;have H5:=hid h5;have MV5:=hid (MV4.out.trans mv5);have SM5:=hid (SM4.out.mv mv5);have A5:=hid (A4.out.mv mv5);clear h5 mv5 ht hr;go_wp2_with fail
 go_end0
 refine⟨_,?_,H5.out,MV5.out.more⟩;exact rfl):P:=h
theorem zk {P:Prop} (h:P:=by
 skip
 have hb:HeapIs w2 xb #[_,_,_,_,_] 180:=A2.out.box;dsimp only at hb;have hd:=hb.cell 4;have hc:=hb.lt;clear hb;go_upto_region 6 with fail
 clear hd hc;go_wp2_with fail
 have hn:0≤m2.next∧m2.next<9000:=by have:=SM2.out.2.1;omega
 refine (Xb H2.out ⟨hn.1,by omega⟩).mono ?_;rintro e w3 ⟨m3,⟨rfl,hl⟩,h3,mv3⟩;have H3:=hid h3;have MV3:=hid (MV2.out.trans mv3);have SM3:=hid (SM2.out.mv mv3);have A3:=hid (A2.out.mv mv3);clear h3 mv3 hl;have hb:HeapIs w3 xb #[_,_,_,_,_] 180:=A3.out.box;dsimp only at hb;have hd:=hb.cell 4;have hc:=hb.lt;clear hb;go_wp2_with fail
 clear hd hc;refine (XZ H3.out (SM3.out.mono (by decide)) (m2.next) (by omega) (imm) hh).mono ?_;rintro e w4 ⟨m4,rfl,h4,mv4⟩;have H4:=hid h4;have MV4:=hid (MV3.out.trans mv4);have SM4:=hid (SM3.out.mv mv4);have A4:=hid (A3.out.mv mv4);clear h4 mv4;have hb:HeapIs w4 xb #[_,_,_,_,_] 180:=A4.out.box;dsimp only at hb;have hf:=hb.cell 0;have he:=hb.cell 1;have hc:=hb.lt;clear hb;go_wp2_with fail
 clear hf he hc;refine (Yu H4.out (SM4.out.mono (by decide)) ⟨⟨25,dst,0,c,m2.next,0,0,[]⟩,.slice none 0 0⟩ ⟨.nil _ _,Stays.nil _ _⟩ (fun q hq=>by cases hq) (YN (by unfold In32;omega) hj (by omega) (by omega) (by omega) (by omega) (by omega))).mono ?_;rintro e w5 ⟨m5,⟨rfl,hr,hp⟩,h5,mv5⟩;have H5:=hid h5;have MV5:=hid (MV4.out.trans mv5);have SM5:=hid (SM4.out.mv mv5);have A5:=hid (A4.out.mv mv5);clear h5 mv5 hr hp;go_wp2_with fail
 go_end0
 refine⟨_,?_,H5.out,MV5.out.more⟩;exact rfl):P:=h
theorem zw {P:Prop} (h:P:=by
 refine (Yu H4.out (SM4.out.mono (by decide)) ⟨⟨op-2+5,dst,0,c,d,0,0,[]⟩,.slice none 0 0⟩ ⟨.nil _ _,Stays.nil _ _⟩ (fun q hq=>by cases hq) (YN (by unfold In32;omega) hh (by omega) (by omega) (by omega) (by omega) (.inr (.inr (.inr (.inl ⟨by omega,by omega⟩)))))).mono ?_;rintro e w5 ⟨m5,⟨rfl,hf,ht⟩,h5,mv5⟩;have H5:=hid h5;have MV5:=hid (MV4.out.trans mv5);have SM5:=hid (SM4.out.mv mv5);have A5:=hid (A4.out.mv mv5);clear h5 mv5 hf ht;go_wp2_with fail
 go_end0
 refine⟨_,?_,H5.out,MV5.out.more⟩;exact rfl):P:=h
theorem zW {P:Prop} (h:P:=by
 rintro e w7 ⟨m7,⟨rfl,hn,hm⟩,h7,mv7⟩;have H7:=hid h7;have MV7:=hid (MV6.out.trans mv7);have SM7:=hid (SM6.out.mv mv7);have A7:=hid (A6.out.mv mv7);clear h7 mv7 hn hm;go_wp2_with fail
 go_end0
 refine⟨_,?_,H7.out,MV7.out.more⟩;exact rfl):P:=h
theorem yD {P:Prop} (h:P:=by
 rcases h.args.1 with ⟨a,h1,h2⟩|⟨b,o,cap,h1,_,_,h4,h5⟩
 ·rw[h2]at hj;cases hj
 ·rw[hv]at h1
  cases h1
  exact⟨h5 j v hj,h4⟩):P:=h
theorem js {P:Prop} (h:P:=by
 dsimp only at hd;have hc:=hd.cell 4;have hl:=hd.lt;clear hd;go_wp2
 exact⟨_,rfl,rfl,.refl _⟩):P:=h
structure Arg7 (C:Nat→Prop) (kb:Nat) (xb:Nat) (x:YF) (m:K7) (w:World):Prop where
 box:HeapIs w xb (Z6 x).toArray 180
 apart:¬ YM kb m xb
 args:Zd w x.av x.args∧Stays (ZT C kb m) w x.av
theorem Arg7.mv {C : Nat→Prop} {kb xb:Nat} {x : YF} {m m':K7} {w w':World} {a n i:Nat} (h:Arg7 C kb xb x m w) (v:Mv7 kb w m w' m' a n i):Arg7 C kb xb x m' w':=
 ⟨v.heap h.box h.apart,fun hq=>by
  rcases v.new xb hq with h1|h1
  ·exact h.apart h1
  ·have:=h.box.lt;omega,v.nums h.args.1 h.args.2,v.stays h.args.2⟩
theorem Arg7.keep {C : Nat→Prop} {kb xb:Nat} {x : YF} {m : K7} {w w':World} (h:Arg7 C kb xb x m w) (s:Since w w'):Arg7 C kb xb x m w':=⟨h.box.keep s,h.apart,h.args.1.keep s,h.args.2.keep s⟩
theorem Arg7.at {C : Nat→Prop} {kb xb:Nat} {x : YF} {m : K7} {w : World} (h:Arg7 C kb xb x m w) {B off n ac:Nat} (hv:x.av=.slice (some ⟨B,off,none⟩) n ac) {j : Nat} {v : Int} (hj:x.args[j]? = some v):w.cell? ⟨B,off+j,none⟩=some (.int .i64 v)∧B<w.heap.size:=by
 exact yD
theorem Wl {w : World} {v : Value} {l : List Int} (h:Zd w v l) (hl:0<l.length):∃ B off cap,v=.slice (some ⟨B,off,none⟩) l.length cap:=by
 rcases h with ⟨a,h1,h2⟩|⟨b,o,cap,h1,_⟩
 ·rw[h2]at hl;cases hl
 ·exact⟨b,o,cap,h1⟩
section
variable {C : Nat→Prop} {kb:Nat} {sv:Value} {l : List Int} {m : K7} {w : World}
theorem Ze7 (h:K7Ok C kb sv l m w) (hs:Sm7 50 m) (x:YF) (hx:Zd w x.av x.args∧Stays (ZT C kb m) w x.av) (hg:Ye 700 x) (hj:x.args.length=2) (hA:2≤x.op∧x.op≤14) :
  Calls prog 139 #[.pointer (some ⟨kb,0,none⟩),fiv x] w (K7Q C kb sv l w m 4 4 5 fun m' e=>e=.returned (.tuple #[])):=by
 obtain⟨op,dst,tw,args,av,imm⟩:=x;obtain⟨B,off,ac,hy⟩:=Wl hx.1 (by rw[hj];decide);rw[hj]at hy;subst hy;dsimp only at hx hg hj hA;obtain⟨a,b,hJ⟩:∃ a b,args=[a,b]:=by
  match args,hj with
  | [a,b],_=>exact⟨a,b,rfl⟩
 subst hJ;have ha:0≤a∧a<10000:=(by have:=hg.2.1 a zaL;omega)
 have hb:0≤b∧b<10000:=(by have:=hg.2.1 b zaL;omega)
 have hh:0≤dst∧dst<10000:=by have h9:=hg.2.2.1;dsimp only at h9;omega
 unfold fiv;dsimp only;obtain⟨m0,hI⟩:∃ x,x=m:=⟨_,rfl⟩
 subst hI;obtain⟨w1,ho⟩:∃ z,z=w.alloc (.cells (Z6 ⟨op,dst,tw,[a,b],.slice (some ⟨B,off,none⟩) 2 ac,imm⟩).toArray 180):=⟨_,rfl⟩
 have hl:Since w w1:=by rw[ho];exact (Since.refl w).alloc _
 have H1:=hid (h.keep hl);have MV1:=hid ((Mv7.refl kb w m0).keep hl);have SM1:=hid hs;obtain⟨xb,hp⟩:∃ z,z=w.heap.size:=⟨_,rfl⟩
 have A1:=zH (Arg7 C kb xb ⟨op,dst,tw,[a,b],.slice (some ⟨B,off,none⟩) 2 ac,imm⟩ m0 w1) ⟨by rw[ho,hp];exact HeapIs.new _ _ _,fun hq=>by have:=h.ltOwn hq;omega,hx.1.keep hl,hx.2.keep hl⟩;clear h hs hx hl;go_enter func139,ntmps139
 go_upto_region 1 with fail
 rw[show (.cells #[.int .i64 op,.int .i64 dst,.int .i64 tw,.slice (some ⟨B,off,none⟩) 2 ac,.int .i32 imm] 180:Obj)=.cells (Z6 ⟨op,dst,tw,[a,b],.slice (some ⟨B,off,none⟩) 2 ac,imm⟩).toArray 180 from rfl,←ho,←hp];clear ho hp;have hc:HeapIs w1 xb #[_,_,_,_,_] 180:=A1.out.box;dsimp only at hc;have hi:=hc.cell 0;have hv:=hc.cell 3;have hd:=hc.lt;obtain⟨hw,hr⟩:=A1.out.at (j:=0) rfl (show _=some a from rfl);rw[Nat.add_zero]at hw;clear hc;go_wp2_with fail
 clear hi hv hd hw hr;refine (WE H1.out (SM1.out.mono zaJ) (a) ha).mono ?_;rintro e w2 ⟨m2,⟨c,rfl,hi,he⟩,h2,mv2⟩;have H2:=hid h2;have MV2:=hid (MV1.out.trans mv2);have SM2:=hid (SM1.out.mv mv2);have A2:=hid (A1.out.mv mv2);clear h2 mv2;have hc:HeapIs w2 xb #[_,_,_,_,_] 180:=A2.out.box;dsimp only at hc;have hv:=hc.cell 3;have hd:=hc.lt;obtain⟨hB,hr⟩:=A2.out.at (j:=1) rfl (show _=some b from rfl);clear hc;go_wp2_with fail
 clear hv hd hB hr;refine (WE H2.out (SM2.out.mono zaJ) (b) hb).mono ?_;rintro e w3 ⟨m3,⟨d,rfl,hR,hQ⟩,h3,mv3⟩;have H3:=hid h3;have MV3:=hid (MV2.out.trans mv3);have SM3:=hid (SM2.out.mv mv3);have A3:=hid (A2.out.mv mv3);clear h3 mv3;go_wp2_with fail
 refine (W6 H3.out 6 zaJ (by have:=SM3.out.1;omega)).mono ?_;rintro e w4 ⟨m4,⟨q,rfl,⟨hP,hO⟩,hH⟩,h4,mv4⟩;have H4:=hid h4;have MV4:=hid (MV3.out.trans mv4);have SM4:=hid (SM3.out.mv mv4);have A4:=hid (A3.out.mv mv4);clear h4 mv4 hH;by_cases hq:q=0
 ·skip
  subst hq;go_wp2_with fail
  have hk:0≤m4.next∧m4.next<9000:=by have:=SM4.out.2.1;omega
  refine (Xb H4.out ⟨hk.1,zaK⟩).mono ?_;rintro e w5 ⟨m5,⟨rfl,hf⟩,h5,mv5⟩;have H5:=hid h5;have MV5:=hid (MV4.out.trans mv5);have SM5:=hid (SM4.out.mv mv5);have A5:=hid (A4.out.mv mv5);clear h5 mv5 hf;go_wp2_with fail
  have hz:0≤m5.next∧m5.next<9000:=by have:=SM5.out.2.1;omega
  refine (Xb H5.out ⟨hz.1,zaK⟩).mono ?_;rintro e w6 ⟨m6,⟨rfl,hu⟩,h6,mv6⟩;have H6:=hid h6;have MV6:=hid (MV5.out.trans mv6);have SM6:=hid (SM5.out.mv mv6);have A6:=hid (A5.out.mv mv6);clear h6 mv6 hu;go_wp2_with fail
  refine (Yu H6.out (SM6.out.mono zaJ) ⟨⟨op-2+5,m4.next,0,c,d,0,0,[]⟩,.slice none 0 0⟩ ⟨.nil _ _,Stays.nil _ _⟩ (fun q hq=>by cases hq) (YN zas zaK zaK zaK zaK zaK (.inr (.inr (.inr (.inl ⟨zaK,zaK⟩)))))).mono ?_;rintro e w7 ⟨m7,⟨rfl,hn,hm⟩,h7,mv7⟩;have H7:=hid h7;have MV7:=hid (MV6.out.trans mv7);have SM7:=hid (SM6.out.mv mv7);have A7:=hid (A6.out.mv mv7);clear h7 mv7 hn hm;go_wp2_with fail
  refine (Yu H7.out (SM7.out.mono zaJ) ⟨⟨18,m5.next,0,m4.next,0,0,100,[]⟩,.slice none 0 0⟩ ⟨.nil _ _,Stays.nil _ _⟩ (fun q hq=>by cases hq) (YN zas zaK zaK zaK zaK zaK zaK)).mono ?_;rintro e w8 ⟨m8,⟨rfl,hG,hD⟩,h8,mv8⟩;have H8:=hid h8;have MV8:=hid (MV7.out.trans mv8);have SM8:=hid (SM7.out.mv mv8);have A8:=hid (A7.out.mv mv8);clear h8 mv8 hG hD;have hc:HeapIs w8 xb #[_,_,_,_,_] 180:=A8.out.box;dsimp only at hc;have he:=hc.cell 1;have hd:=hc.lt;clear hc;go_wp2_with fail
  clear he hd;refine (Yu H8.out (SM8.out.mono zaJ) ⟨⟨18,dst,0,m5.next,0,0,-100,[]⟩,.slice none 0 0⟩ ⟨.nil _ _,Stays.nil _ _⟩ (fun q hq=>by cases hq) (YN zas hh zaK zaK zaK zaK zaK)).mono ?_;rintro e w9 ⟨m9,⟨rfl,hF,hC⟩,h9,mv9⟩;have H9:=hid h9;have MV9:=hid (MV8.out.trans mv9);have SM9:=hid (SM8.out.mv mv9);have A9:=hid (A8.out.mv mv9);clear h9 mv9 hF hC;go_wp2_with fail
  go_end0
  refine⟨_,?_,H9.out,MV9.out.more⟩;exact rfl
 ·skip
  have hM:(q==0)=false:=by simpa using hq
  clear hq;by_cases hq:q=1
  ·skip
   subst hq;go_wp2_with fail
   have hk:0≤m4.next∧m4.next<9000:=by have:=SM4.out.2.1;omega
   refine (Xb H4.out ⟨hk.1,zaK⟩).mono ?_;rintro e w5 ⟨m5,⟨rfl,hf⟩,h5,mv5⟩;have H5:=hid h5;have MV5:=hid (MV4.out.trans mv5);have SM5:=hid (SM4.out.mv mv5);have A5:=hid (A4.out.mv mv5);clear h5 mv5 hf;go_wp2_with fail
   refine (Yu H5.out (SM5.out.mono zaJ) ⟨⟨op-2+5,m4.next,0,c,d,0,0,[]⟩,.slice none 0 0⟩ ⟨.nil _ _,Stays.nil _ _⟩ (fun q hq=>by cases hq) (YN zas zaK zaK zaK zaK zaK (.inr (.inr (.inr (.inl ⟨zaK,zaK⟩)))))).mono ?_;rintro e w6 ⟨m6,⟨rfl,hu,hE⟩,h6,mv6⟩;have H6:=hid h6;have MV6:=hid (MV5.out.trans mv6);have SM6:=hid (SM5.out.mv mv6);have A6:=hid (A5.out.mv mv6);clear h6 mv6 hu hE;have hc:HeapIs w6 xb #[_,_,_,_,_] 180:=A6.out.box;dsimp only at hc;have he:=hc.cell 1;have hd:=hc.lt;clear hc;go_wp2_with fail
   clear he hd;refine (Yu H6.out (SM6.out.mono zaJ) ⟨⟨20,dst,0,m4.next,0,0,0,[]⟩,.slice none 0 0⟩ ⟨.nil _ _,Stays.nil _ _⟩ (fun q hq=>by cases hq) (YN zas hh zaK zaK zaK zaK zaK)).mono ?_;exact zW
  ·skip
   have hL:(q==1)=false:=by simpa using hq
   clear hq;by_cases hq:q=2
   ·skip
    subst hq;by_cases h4:op=4
    ·skip
     subst h4;have hc:HeapIs w4 xb #[_,_,_,_,_] 180:=A4.out.box;dsimp only at hc;have hi:=hc.cell 0;have hd:=hc.lt;clear hc;go_wp2_with fail
     clear hi hd;have hk:0≤m4.next∧m4.next<9000:=by have:=SM4.out.2.1;omega
     refine (Xb H4.out ⟨hk.1,zaK⟩).mono ?_;rintro e w5 ⟨m5,⟨rfl,hf⟩,h5,mv5⟩;have H5:=hid h5;have MV5:=hid (MV4.out.trans mv5);have SM5:=hid (SM4.out.mv mv5);have A5:=hid (A4.out.mv mv5);clear h5 mv5 hf;go_wp2_with fail
     refine (XZ H5.out (SM5.out.mono zaJ) (m4.next) zaK (0) zar).mono ?_;rintro e w6 ⟨m6,rfl,h6,mv6⟩;have H6:=hid h6;have MV6:=hid (MV5.out.trans mv6);have SM6:=hid (SM5.out.mv mv6);have A6:=hid (A5.out.mv mv6);clear h6 mv6;have hc:HeapIs w6 xb #[_,_,_,_,_] 180:=A6.out.box;dsimp only at hc;have he:=hc.cell 1;have hd:=hc.lt;clear hc;go_wp2_with fail
     clear he hd;refine (Yu H6.out (SM6.out.mono zaJ) ⟨⟨23,dst,0,c,d,m4.next,0,[]⟩,.slice none 0 0⟩ ⟨.nil _ _,Stays.nil _ _⟩ (fun q hq=>by cases hq) (YN zas hh zaK zaK zaK zaK zaK)).mono ?_;exact zW
    ·skip
     have hN:(op==4)=false:=by simpa using h4
     have hc:HeapIs w4 xb #[_,_,_,_,_] 180:=A4.out.box;dsimp only at hc;have hi:=hc.cell 0;have he:=hc.cell 1;have hd:=hc.lt;clear hc;go_wp2_with fail
     clear hi he hd;exact zw
   ·skip
    have hK:(q==2)=false:=by simpa using hq
    have hc:HeapIs w4 xb #[_,_,_,_,_] 180:=A4.out.box;dsimp only at hc;have he:=hc.cell 1;have hd:=hc.lt;clear hc;go_wp2_with fail
    clear he hd;exact zw
theorem ZaQ (h:K7Ok C kb sv l m w) (hs:Sm7 50 m) (x:YF) (hx:Zd w x.av x.args∧Stays (ZT C kb m) w x.av) (hg:Ye 700 x) (hi:x.args.length=1) (hu:x.op=15) :
  Calls prog 137 #[.pointer (some ⟨kb,0,none⟩),fiv x] w (K7Q C kb sv l w m 4 4 5 fun m' e=>e=.returned (.tuple #[])):=by
 obtain⟨op,dst,tw,args,av,imm⟩:=x;obtain⟨B,off,ac,hy⟩:=Wl hx.1 (by rw[hi];decide);rw[hi]at hy;subst hy;dsimp only at hx hg hi hu;subst hu;obtain⟨a,hI⟩:∃ a,args=[a]:=by
  match args,hi with
  | [a],_=>exact⟨a,rfl⟩
 subst hI;have ha:0≤a∧a<10000:=(by have:=hg.2.1 a zaL;omega)
 have hj:0≤dst∧dst<10000:=by have h9:=hg.2.2.1;dsimp only at h9;omega
 have hh:=hg.1;have hw:=hh;unfold In32 at hw;dsimp only at hw;unfold fiv;dsimp only;obtain⟨m0,hE⟩:∃ x,x=m:=⟨_,rfl⟩
 subst hE;obtain⟨w1,hm⟩:∃ z,z=w.alloc (.cells (Z6 ⟨15,dst,tw,[a],.slice (some ⟨B,off,none⟩) 1 ac,imm⟩).toArray 180):=⟨_,rfl⟩
 have hk:Since w w1:=by rw[hm];exact (Since.refl w).alloc _
 have H1:=hid (h.keep hk);have MV1:=hid ((Mv7.refl kb w m0).keep hk);have SM1:=hid hs;obtain⟨xb,ho⟩:∃ z,z=w.heap.size:=⟨_,rfl⟩
 have A1:=zH (Arg7 C kb xb ⟨15,dst,tw,[a],.slice (some ⟨B,off,none⟩) 1 ac,imm⟩ m0 w1) ⟨by rw[hm,ho];exact HeapIs.new _ _ _,fun hq=>by have:=h.ltOwn hq;omega,hx.1.keep hk,hx.2.keep hk⟩;clear h hs hx hk;go_enter func137,ntmps137
 go_upto_region 1 with fail
 rw[show (.cells #[.int .i64 15,.int .i64 dst,.int .i64 tw,.slice (some ⟨B,off,none⟩) 1 ac,.int .i32 imm] 180:Obj)=.cells (Z6 ⟨15,dst,tw,[a],.slice (some ⟨B,off,none⟩) 1 ac,imm⟩).toArray 180 from rfl,←hm,←ho];clear hm ho;have hb:HeapIs w1 xb #[_,_,_,_,_] 180:=A1.out.box;dsimp only at hb;have hH:=hb.cell 3;have hc:=hb.lt;obtain⟨hv,hA⟩:=A1.out.at (j:=0) rfl (show _=some a from rfl);rw[Nat.add_zero]at hv;clear hb;go_wp2_with fail
 clear hH hc hv hA;refine (WE H1.out (SM1.out.mono zaJ) (a) ha).mono ?_;rintro e w2 ⟨m2,⟨c,rfl,hf,he⟩,h2,mv2⟩;have H2:=hid h2;have MV2:=hid (MV1.out.trans mv2);have SM2:=hid (SM1.out.mv mv2);have A2:=hid (A1.out.mv mv2);clear h2 mv2;by_cases hF:0≤imm
 ·skip
  by_cases hG:imm≤255
  ·skip
   have h0:0≤imm:=hF;have h1:imm≤255:=hG;have hb:HeapIs w2 xb #[_,_,_,_,_] 180:=A2.out.box;dsimp only at hb;have hd:=hb.cell 4;have hc:=hb.lt;clear hb;go_wp2_with fail
   clear hd hc;refine (W6 H2.out 3 zaJ zam).mono ?_;rintro e w3 ⟨m3,⟨q,rfl,⟨hK,hJ⟩,hl⟩,h3,mv3⟩;have H3:=hid h3;have MV3:=hid (MV2.out.trans mv3);have SM3:=hid (SM2.out.mv mv3);have A3:=hid (A2.out.mv mv3);clear h3 mv3 hl;by_cases hq:0<q
   ·skip
    have hb:HeapIs w3 xb #[_,_,_,_,_] 180:=A3.out.box;dsimp only at hb;have hf:=hb.cell 0;have he:=hb.cell 1;have hd:=hb.cell 4;have hc:=hb.lt;clear hb;go_wp2_with fail
    clear hf he hd hc;refine (Yu H3.out (SM3.out.mono zaJ) ⟨⟨24,dst,0,c,0,0,imm,[]⟩,.slice none 0 0⟩ ⟨.nil _ _,Stays.nil _ _⟩ (fun q hq=>by cases hq) (YN hh hj zaK zaK zaK zaK zaK)).mono ?_;rintro e w4 ⟨m4,⟨rfl,ht,hC⟩,h4,mv4⟩;have H4:=hid h4;have MV4:=hid (MV3.out.trans mv4);have SM4:=hid (SM3.out.mv mv4);have A4:=hid (A3.out.mv mv4);clear h4 mv4 ht hC;go_wp2_with fail
    go_end0
    refine⟨_,?_,H4.out,MV4.out.more⟩;exact rfl
   ·skip
    go_wp2_with fail
    have hz:0≤m3.next∧m3.next<9000:=by have:=SM3.out.2.1;omega
    refine (Xb H3.out ⟨hz.1,zaK⟩).mono ?_;rintro e w4 ⟨m4,⟨rfl,ht⟩,h4,mv4⟩;have H4:=hid h4;have MV4:=hid (MV3.out.trans mv4);have SM4:=hid (SM3.out.mv mv4);have A4:=hid (A3.out.mv mv4);clear h4 mv4 ht;have hb:HeapIs w4 xb #[_,_,_,_,_] 180:=A4.out.box;dsimp only at hb;have hd:=hb.cell 4;have hc:=hb.lt;clear hb;go_wp2_with fail
    clear hd hc;refine (XZ H4.out (SM4.out.mono zaJ) (m3.next) zaK (imm) hh).mono ?_;rintro e w5 ⟨m5,rfl,h5,mv5⟩;have H5:=hid h5;have MV5:=hid (MV4.out.trans mv5);have SM5:=hid (SM4.out.mv mv5);have A5:=hid (A4.out.mv mv5);clear h5 mv5;have hb:HeapIs w5 xb #[_,_,_,_,_] 180:=A5.out.box;dsimp only at hb;have hf:=hb.cell 0;have he:=hb.cell 1;have hc:=hb.lt;clear hb;go_wp2_with fail
    clear hf he hc;refine (Yu H5.out (SM5.out.mono zaJ) ⟨⟨25,dst,0,c,m3.next,0,0,[]⟩,.slice none 0 0⟩ ⟨.nil _ _,Stays.nil _ _⟩ (fun q hq=>by cases hq) (YN zas hj zaK zaK zaK zaK zaK)).mono ?_;rintro e w6 ⟨m6,⟨rfl,hD,hB⟩,h6,mv6⟩;have H6:=hid h6;have MV6:=hid (MV5.out.trans mv6);have SM6:=hid (SM5.out.mv mv6);have A6:=hid (A5.out.mv mv6);clear h6 mv6 hD hB;exact jW
  ·exact zk
 ·exact zk
theorem ZaP (h:K7Ok C kb sv l m w) (hs:Sm7 50 m) (x:YF) (hx:Zd w x.av x.args∧Stays (ZT C kb m) w x.av) (hg:Ye 700 x) (hn:x.args.length=2) (hA:x.op=16) :
  Calls prog 137 #[.pointer (some ⟨kb,0,none⟩),fiv x] w (K7Q C kb sv l w m 4 4 5 fun m' e=>e=.returned (.tuple #[])):=by
 obtain⟨op,dst,tw,args,av,imm⟩:=x;obtain⟨B,off,ac,hD⟩:=Wl hx.1 (by rw[hn];decide);rw[hn]at hD;subst hD;dsimp only at hx hg hn hA;subst hA;obtain⟨a,b,hK⟩:∃ a b,args=[a,b]:=by
  match args,hn with
  | [a,b],_=>exact⟨a,b,rfl⟩
 subst hK;have ha:0≤a∧a<10000:=(by have:=hg.2.1 a zaL;omega)
 have hb:0≤b∧b<10000:=(by have:=hg.2.1 b zaL;omega)
 have hL:0≤dst∧dst<10000:=by have h9:=hg.2.2.1;dsimp only at h9;omega
 have hj:=hg.1;have hC:=hj;unfold In32 at hC;dsimp only at hC;unfold fiv;dsimp only;obtain⟨m0,hH⟩:∃ x,x=m:=⟨_,rfl⟩
 subst hH;obtain⟨w1,hv⟩:∃ z,z=w.alloc (.cells (Z6 ⟨16,dst,tw,[a,b],.slice (some ⟨B,off,none⟩) 2 ac,imm⟩).toArray 180):=⟨_,rfl⟩
 have ho:Since w w1:=by rw[hv];exact (Since.refl w).alloc _
 have H1:=hid (h.keep ho);have MV1:=hid ((Mv7.refl kb w m0).keep ho);have SM1:=hid hs;obtain⟨xb,hz⟩:∃ z,z=w.heap.size:=⟨_,rfl⟩
 have A1:=zH (Arg7 C kb xb ⟨16,dst,tw,[a,b],.slice (some ⟨B,off,none⟩) 2 ac,imm⟩ m0 w1) ⟨by rw[hv,hz];exact HeapIs.new _ _ _,fun hq=>by have:=h.ltOwn hq;omega,hx.1.keep ho,hx.2.keep ho⟩;clear h hs hx ho;go_enter func137,ntmps137
 go_upto_region 1 with fail
 rw[show (.cells #[.int .i64 16,.int .i64 dst,.int .i64 tw,.slice (some ⟨B,off,none⟩) 2 ac,.int .i32 imm] 180:Obj)=.cells (Z6 ⟨16,dst,tw,[a,b],.slice (some ⟨B,off,none⟩) 2 ac,imm⟩).toArray 180 from rfl,←hv,←hz];clear hv hz;have hd:HeapIs w1 xb #[_,_,_,_,_] 180:=A1.out.box;dsimp only at hd;have hm:=hd.cell 3;have he:=hd.lt;obtain⟨hB,hi⟩:=A1.out.at (j:=0) rfl (show _=some a from rfl);rw[Nat.add_zero]at hB;clear hd;go_wp2_with fail
 clear hm he hB hi;refine (WE H1.out (SM1.out.mono zaJ) (a) ha).mono ?_;rintro e w2 ⟨m2,⟨c,rfl,hh,hO⟩,h2,mv2⟩;have H2:=hid h2;have MV2:=hid (MV1.out.trans mv2);have SM2:=hid (SM1.out.mv mv2);have A2:=hid (A1.out.mv mv2);clear h2 mv2;by_cases hI:0≤imm
 ·skip
  by_cases hJ:imm≤255
  ·skip
   have h0:0≤imm:=hI;have h1:imm≤255:=hJ;have hd:HeapIs w2 xb #[_,_,_,_,_] 180:=A2.out.box;dsimp only at hd;have hf:=hd.cell 4;have he:=hd.lt;clear hd;go_wp2_with fail
   clear hf he;refine (W6 H2.out 3 zaJ zam).mono ?_;rintro e w3 ⟨m3,⟨q,rfl,⟨hN,hM⟩,hu⟩,h3,mv3⟩;have H3:=hid h3;have MV3:=hid (MV2.out.trans mv3);have SM3:=hid (SM2.out.mv mv3);have A3:=hid (A2.out.mv mv3);clear h3 mv3 hu;by_cases hq:0<q
   ·skip
    have hd:HeapIs w3 xb #[_,_,_,_,_] 180:=A3.out.box;dsimp only at hd;have hh:=hd.cell 0;have he:=hd.lt;clear hd;go_upto_region 5 with fail
    clear hh he;refine Zh 9 rfl zaC zaC zaC zaJ
     [Is (.pointer (some ⟨kb,0,none⟩)),Is (.int .i64 c),Is (.pointer (some ⟨xb,3,none⟩)),Is (.slice (some ⟨B,off,none⟩) 2 ac),Is (.pointer (some ⟨B,off+1,none⟩)),Is (.int .i64 b),Is (.pointer (some ⟨xb,4,none⟩)),Is (.int .i32 imm),Is (.agg #[.int .i64 26,.int .i64 0,.int .i64 0,.int .i64 c,.int .i64 b,.int .i64 0,.int .i32 imm,.slice none 0 0])]
     kP ⟨?_,?_,?_,?_,?_,?_,?_,?_,?_,trivial⟩ ?_
    rotate_right
    ·intro vs w4 hs hk;revert hk;refine zs0 ?_;intro hk
     obtain⟨m4,hw⟩:∃ x,x=m3:=⟨_,rfl⟩
     have H4:=hid (H3.out.keep hs);have MV4:=hid (MV3.out.keep hs);have SM4:=SM3;have A4:=hid (A3.out.keep hs);rw[←hw]at H4 MV4 SM4 A4;clear hs hk hw;go_wp2_with fail
     refine (Yu H4.out (SM4.out.mono zaJ) ⟨⟨26,0,0,c,b,0,imm,[]⟩,.slice none 0 0⟩ ⟨.nil _ _,Stays.nil _ _⟩ (fun q hq=>by cases hq) (YN hj zaK zaK zaK zaK zaK zaK)).mono ?_;rintro e w5 ⟨m5,⟨rfl,ht,hr⟩,h5,mv5⟩;have H5:=hid h5;have MV5:=hid (MV4.out.trans mv5);have SM5:=hid (SM4.out.mv mv5);have A5:=hid (A4.out.mv mv5);clear h5 mv5 ht hr;go_wp2_with fail
     go_end0
     refine⟨_,?_,H5.out,MV5.out.more⟩;exact rfl
    all_goals
     intro vs w4 hs hk _;revert hk;refine zs1 ?_;intro hk
    iterate 3
     ·exact kH
    ·have hd:HeapIs w4 xb #[_,_,_,_,_] 180:=(A3.out.keep hs).box;dsimp only at hd;have hc:=hd.cell 3;have hl:=hd.lt;clear hd;exact kH
    ·exact kH
    ·obtain⟨hc,hl⟩:=(A3.out.keep hs).at (j:=1) rfl (show _=some b from rfl);exact kH
    ·exact kH
    ·have hd:HeapIs w4 xb #[_,_,_,_,_] 180:=(A3.out.keep hs).box;exact js
    ·exact kH
   ·skip
    go_wp2_with fail
    have hE:0≤m3.next∧m3.next<9000:=by have:=SM3.out.2.1;omega
    refine (Xb H3.out ⟨hE.1,zaK⟩).mono ?_;rintro e w4 ⟨m4,⟨rfl,hw⟩,h4,mv4⟩;have H4:=hid h4;have MV4:=hid (MV3.out.trans mv4);have SM4:=hid (SM3.out.mv mv4);have A4:=hid (A3.out.mv mv4);clear h4 mv4 hw;have hd:HeapIs w4 xb #[_,_,_,_,_] 180:=A4.out.box;dsimp only at hd;have hf:=hd.cell 4;have he:=hd.lt;clear hd;go_wp2_with fail
    clear hf he;refine (XZ H4.out (SM4.out.mono zaJ) (m3.next) zaK (imm) hj).mono ?_;rintro e w5 ⟨m5,rfl,h5,mv5⟩;have H5:=hid h5;have MV5:=hid (MV4.out.trans mv5);have SM5:=hid (SM4.out.mv mv5);have A5:=hid (A4.out.mv mv5);clear h5 mv5;have hd:HeapIs w5 xb #[_,_,_,_,_] 180:=A5.out.box;dsimp only at hd;have hh:=hd.cell 0;have hm:=hd.cell 3;have he:=hd.lt;obtain⟨hp,hi⟩:=A5.out.at (j:=1) rfl (show _=some b from rfl);clear hd;go_wp2_with fail
    clear hh hm he hp hi;refine (Yu H5.out (SM5.out.mono zaJ) ⟨⟨27,0,0,c,m3.next,b,0,[]⟩,.slice none 0 0⟩ ⟨.nil _ _,Stays.nil _ _⟩ (fun q hq=>by cases hq) (YN zas zaK zaK zaK zaK zaK zaK)).mono ?_;rintro e w6 ⟨m6,⟨rfl,hG,hF⟩,h6,mv6⟩;have H6:=hid h6;have MV6:=hid (MV5.out.trans mv6);have SM6:=hid (SM5.out.mv mv6);have A6:=hid (A5.out.mv mv6);clear h6 mv6 hG hF;exact jW
  ·exact zj
 ·exact zj
end
end Go.Proofs.YtimpddecdodddaaGreat
