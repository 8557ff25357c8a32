/- jacquardref07's maker: two, memory. -/
import Derived.Test.YtkpbmbhejpmboaaPkB17
namespace Go.Proofs.Ytkpbmbhejpmboaa
open Go.RowKit
set_option linter.unusedVariables false
structure Arg7 (C:Nat→Prop) (kb:Nat) (xb:Nat) (x:FIns) (m:K7) (w:World):Prop where
 box:HeapIs w xb (ficells x).toArray 181
 apart:¬ Own7 kb m xb
 args:Ints w x.av x.args∧Stays (OwnC7 C kb m) w x.av
theorem Arg7.mv {C : Nat→Prop} {kb xb:Nat} {x : FIns} {m m':K7} {w w':World} {a n i:Nat} (h:Arg7 C kb xb x m w) (v:Mv7 kb w m w' m' a n i):Arg7 C kb xb x m' w':=
 ⟨v.heap h.box h.apart,fun hq=>by
  rcases v.new xb hq with h1|h1
  ·exact h.apart h1
  ·have:=h.box.lt;omega,v.nums h.args.1 h.args.2,v.stays h.args.2⟩
theorem Arg7.keep {C : Nat→Prop} {kb xb:Nat} {x : FIns} {m : K7} {w w':World} (h:Arg7 C kb xb x m w) (s:Since w w'):Arg7 C kb xb x m w':=⟨h.box.keep s,h.apart,h.args.1.keep s,h.args.2.keep s⟩
theorem Arg7.at {C : Nat→Prop} {kb xb:Nat} {x : FIns} {m : K7} {w : World} (h:Arg7 C kb xb x m w) {B off n ac:Nat} (hv:x.av=.slice (some ⟨B,off,none⟩) n ac) {j : Nat} {v : Int} (hj:x.args[j]? = some v):w.cell? ⟨B,off+j,none⟩=some (.int .i64 v)∧B<w.heap.size:=by
 rcases h.args.1 with ⟨a,h1,h2⟩|⟨b,o,cap,h1,_,_,h4,h5⟩
 ·rw[h2]at hj;cases hj
 ·rw[hv]at h1
  cases h1
  exact⟨h5 j v hj,h4⟩
theorem args_at {w : World} {v : Value} {l : List Int} (h:Ints w v l) (hl:0<l.length):∃ B off cap,v=.slice (some ⟨B,off,none⟩) l.length cap:=by
 rcases h with ⟨a,h1,h2⟩|⟨b,o,cap,h1,_⟩
 ·rw[h2]at hl;cases hl
 ·exact⟨b,o,cap,h1⟩
section
variable {C : Nat→Prop} {kb:Nat} {sv:Value} {l : List Int} {m : K7} {w : World}
set_option maxHeartbeats 1000000 in
set_option maxRecDepth 100000 in
theorem k7_two (h:K7Ok C kb sv l m w) (hs:Sm7 50 m) (x:FIns) (hx:Ints w x.av x.args∧Stays (OwnC7 C kb m) w x.av) (hg:InsGood 700 x) (hlen:x.args.length=2) (hop:2≤x.op∧x.op≤14) :
  Calls Try.prog 139 #[.pointer (some ⟨kb,0,none⟩),fiv x] w (K7Q C kb sv l w m 4 4 5 fun m' e=>e=.returned (.tuple #[])):=by
 obtain⟨op,dst,tw,args,av,imm⟩:=x
 obtain⟨B,off,ac,hav⟩:=args_at hx.1 (by rw[hlen];decide)
 rw[hlen]at hav
 subst hav
 dsimp only at hx hg hlen hop
 obtain⟨a,b,hab⟩:∃ a b,args=[a,b]:=by
  match args,hlen with
  | [a,b],_=>exact⟨a,b,rfl⟩
 subst hab
 have ha:0≤a∧a<10000:=(by have:=hg.2.1 a (by simp);omega)
 have hb:0≤b∧b<10000:=(by have:=hg.2.1 b (by simp);omega)
 have hdst:0≤dst∧dst<10000:=by have h9:=hg.2.2.1;dsimp only at h9;omega
 unfold fiv
 dsimp only
 obtain⟨m0,hm0⟩:∃ x,x=m:=⟨_,rfl⟩
 subst hm0
 obtain⟨w1,hw1⟩:∃ z,z=w.alloc (.cells (ficells ⟨op,dst,tw,[a,b],.slice (some ⟨B,off,none⟩) 2 ac,imm⟩).toArray 181):=⟨_,rfl⟩
 have hs1:Since w w1:=by rw[hw1];exact (Since.refl w).alloc _
 have H1:=Lib.hid (h.keep hs1)
 have MV1:=Lib.hid ((Mv7.refl kb w m0).keep hs1)
 have SM1:=Lib.hid hs
 obtain⟨xb,hxb⟩:∃ z,z=w.heap.size:=⟨_,rfl⟩
 have A1:=Lib.hid (show Arg7 C kb xb ⟨op,dst,tw,[a,b],.slice (some ⟨B,off,none⟩) 2 ac,imm⟩ m0 w1 from⟨by rw[hw1,hxb];exact HeapIs.new _ _ _,fun hq=>by have:=h.ltOwn hq;omega,hx.1.keep hs1,hx.2.keep hs1⟩)
 clear h hs hx hs1
 go_enter Try.func139,Try.ntmps139
 go_upto_region 1 with fail
 rw[show (.cells #[.int .i64 op,.int .i64 dst,.int .i64 tw,.slice (some ⟨B,off,none⟩) 2 ac,.int .i32 imm] 181:Obj)=.cells (ficells ⟨op,dst,tw,[a,b],.slice (some ⟨B,off,none⟩) 2 ac,imm⟩).toArray 181 from rfl,←hw1,←hxb]
 clear hw1 hxb
 have hbx:HeapIs w1 xb #[_,_,_,_,_] 181:=A1.out.box
 dsimp only at hbx
 have hc0:=hbx.cell 0
 have hc3:=hbx.cell 3
 have hbl:=hbx.lt
 obtain⟨ho0,hol⟩:=A1.out.at (j:=0) rfl (show _=some a from rfl)
 rw[Nat.add_zero]at ho0
 clear hbx
 go_wp2_with fail
 clear hc0 hc3 hbl ho0 hol
 refine (k7_copied H1.out (SM1.out.mono (by decide)) (a) ha).mono ?_
 rintro e w2 ⟨m2,⟨c,rfl,hc0,hc1⟩,h2,mv2⟩
 have H2:=Lib.hid h2
 have MV2:=Lib.hid (MV1.out.trans mv2)
 have SM2:=Lib.hid (SM1.out.mv mv2 (by decide) (by decide) (by decide))
 have A2:=Lib.hid (A1.out.mv mv2)
 clear h2 mv2
 have hbx:HeapIs w2 xb #[_,_,_,_,_] 181:=A2.out.box
 dsimp only at hbx
 have hc3:=hbx.cell 3
 have hbl:=hbx.lt
 obtain⟨ho1,hol⟩:=A2.out.at (j:=1) rfl (show _=some b from rfl)
 clear hbx
 go_wp2_with fail
 clear hc3 hbl ho1 hol
 refine (k7_copied H2.out (SM2.out.mono (by decide)) (b) hb).mono ?_
 rintro e w3 ⟨m3,⟨d,rfl,hd0,hd1⟩,h3,mv3⟩
 have H3:=Lib.hid h3
 have MV3:=Lib.hid (MV2.out.trans mv3)
 have SM3:=Lib.hid (SM2.out.mv mv3 (by decide) (by decide) (by decide))
 have A3:=Lib.hid (A2.out.mv mv3)
 clear h3 mv3
 go_wp2_with fail
 refine (k7_take H3.out 6 (by decide) (by have:=SM3.out.1;omega)).mono ?_
 rintro e w4 ⟨m4,⟨q,rfl,⟨hq0,hq1⟩,hm4⟩,h4,mv4⟩
 have H4:=Lib.hid h4
 have MV4:=Lib.hid (MV3.out.trans mv4)
 have SM4:=Lib.hid (SM3.out.mv mv4 (by decide) (by decide) (by decide))
 have A4:=Lib.hid (A3.out.mv mv4)
 clear h4 mv4 hm4
 by_cases hq:q=0
 ·skip
  subst hq
  go_wp2_with fail
  have hz4:0≤m4.next∧m4.next<9000:=by have:=SM4.out.2.1;omega
  refine (k7_temp H4.out ⟨hz4.1,by omega⟩).mono ?_
  rintro e w5 ⟨m5,⟨rfl,hm5⟩,h5,mv5⟩
  have H5:=Lib.hid h5
  have MV5:=Lib.hid (MV4.out.trans mv5)
  have SM5:=Lib.hid (SM4.out.mv mv5 (by decide) (by decide) (by decide))
  have A5:=Lib.hid (A4.out.mv mv5)
  clear h5 mv5 hm5
  go_wp2_with fail
  have hz5:0≤m5.next∧m5.next<9000:=by have:=SM5.out.2.1;omega
  refine (k7_temp H5.out ⟨hz5.1,by omega⟩).mono ?_
  rintro e w6 ⟨m6,⟨rfl,hm6⟩,h6,mv6⟩
  have H6:=Lib.hid h6
  have MV6:=Lib.hid (MV5.out.trans mv6)
  have SM6:=Lib.hid (SM5.out.mv mv6 (by decide) (by decide) (by decide))
  have A6:=Lib.hid (A5.out.mv mv6)
  clear h6 mv6 hm6
  go_wp2_with fail
  refine (k7_put H6.out (SM6.out.mono (by decide)) ⟨⟨op-2+5,m4.next,0,c,d,0,0,[]⟩,.slice none 0 0⟩ ⟨.nil _ _,Stays.nil _ _⟩ (fun q hq=>by cases hq) (mgood (by unfold In32;omega) (by omega) (by omega) (by omega) (by omega) (by omega) (.inr (.inr (.inr (.inl ⟨by omega,by omega⟩)))))).mono ?_
  rintro e w7 ⟨m7,⟨rfl,hm7,hn7⟩,h7,mv7⟩
  have H7:=Lib.hid h7
  have MV7:=Lib.hid (MV6.out.trans mv7)
  have SM7:=Lib.hid (SM6.out.mv mv7 (by decide) (by decide) (by decide))
  have A7:=Lib.hid (A6.out.mv mv7)
  clear h7 mv7 hm7 hn7
  go_wp2_with fail
  refine (k7_put H7.out (SM7.out.mono (by decide)) ⟨⟨18,m5.next,0,m4.next,0,0,100,[]⟩,.slice none 0 0⟩ ⟨.nil _ _,Stays.nil _ _⟩ (fun q hq=>by cases hq) (mgood (by unfold In32;omega) (by omega) (by omega) (by omega) (by omega) (by omega) (by omega))).mono ?_
  rintro e w8 ⟨m8,⟨rfl,hm8,hn8⟩,h8,mv8⟩
  have H8:=Lib.hid h8
  have MV8:=Lib.hid (MV7.out.trans mv8)
  have SM8:=Lib.hid (SM7.out.mv mv8 (by decide) (by decide) (by decide))
  have A8:=Lib.hid (A7.out.mv mv8)
  clear h8 mv8 hm8 hn8
  have hbx:HeapIs w8 xb #[_,_,_,_,_] 181:=A8.out.box
  dsimp only at hbx
  have hc1:=hbx.cell 1
  have hbl:=hbx.lt
  clear hbx
  go_wp2_with fail
  clear hc1 hbl
  refine (k7_put H8.out (SM8.out.mono (by decide)) ⟨⟨18,dst,0,m5.next,0,0,-100,[]⟩,.slice none 0 0⟩ ⟨.nil _ _,Stays.nil _ _⟩ (fun q hq=>by cases hq) (mgood (by unfold In32;omega) hdst (by omega) (by omega) (by omega) (by omega) (by omega))).mono ?_
  rintro e w9 ⟨m9,⟨rfl,hm9,hn9⟩,h9,mv9⟩
  have H9:=Lib.hid h9
  have MV9:=Lib.hid (MV8.out.trans mv9)
  have SM9:=Lib.hid (SM8.out.mv mv9 (by decide) (by decide) (by decide))
  have A9:=Lib.hid (A8.out.mv mv9)
  clear h9 mv9 hm9 hn9
  go_wp2_with fail
  go_end0
  refine⟨_,?_,H9.out,MV9.out.more (by decide) (by decide) (by decide)⟩
  exact rfl
 ·skip
  have hz0:(q==0)=false:=by simpa using hq
  clear hq
  by_cases hq:q=1
  ·skip
   subst hq
   go_wp2_with fail
   have hz4:0≤m4.next∧m4.next<9000:=by have:=SM4.out.2.1;omega
   refine (k7_temp H4.out ⟨hz4.1,by omega⟩).mono ?_
   rintro e w5 ⟨m5,⟨rfl,hm5⟩,h5,mv5⟩
   have H5:=Lib.hid h5
   have MV5:=Lib.hid (MV4.out.trans mv5)
   have SM5:=Lib.hid (SM4.out.mv mv5 (by decide) (by decide) (by decide))
   have A5:=Lib.hid (A4.out.mv mv5)
   clear h5 mv5 hm5
   go_wp2_with fail
   refine (k7_put H5.out (SM5.out.mono (by decide)) ⟨⟨op-2+5,m4.next,0,c,d,0,0,[]⟩,.slice none 0 0⟩ ⟨.nil _ _,Stays.nil _ _⟩ (fun q hq=>by cases hq) (mgood (by unfold In32;omega) (by omega) (by omega) (by omega) (by omega) (by omega) (.inr (.inr (.inr (.inl ⟨by omega,by omega⟩)))))).mono ?_
   rintro e w6 ⟨m6,⟨rfl,hm6,hn6⟩,h6,mv6⟩
   have H6:=Lib.hid h6
   have MV6:=Lib.hid (MV5.out.trans mv6)
   have SM6:=Lib.hid (SM5.out.mv mv6 (by decide) (by decide) (by decide))
   have A6:=Lib.hid (A5.out.mv mv6)
   clear h6 mv6 hm6 hn6
   have hbx:HeapIs w6 xb #[_,_,_,_,_] 181:=A6.out.box
   dsimp only at hbx
   have hc1:=hbx.cell 1
   have hbl:=hbx.lt
   clear hbx
   go_wp2_with fail
   clear hc1 hbl
   refine (k7_put H6.out (SM6.out.mono (by decide)) ⟨⟨20,dst,0,m4.next,0,0,0,[]⟩,.slice none 0 0⟩ ⟨.nil _ _,Stays.nil _ _⟩ (fun q hq=>by cases hq) (mgood (by unfold In32;omega) hdst (by omega) (by omega) (by omega) (by omega) (by omega))).mono ?_
   rintro e w7 ⟨m7,⟨rfl,hm7,hn7⟩,h7,mv7⟩
   have H7:=Lib.hid h7
   have MV7:=Lib.hid (MV6.out.trans mv7)
   have SM7:=Lib.hid (SM6.out.mv mv7 (by decide) (by decide) (by decide))
   have A7:=Lib.hid (A6.out.mv mv7)
   clear h7 mv7 hm7 hn7
   go_wp2_with fail
   go_end0
   refine⟨_,?_,H7.out,MV7.out.more (by decide) (by decide) (by decide)⟩
   exact rfl
  ·skip
   have hz1:(q==1)=false:=by simpa using hq
   clear hq
   by_cases hq:q=2
   ·skip
    subst hq
    by_cases h4:op=4
    ·skip
     subst h4
     have hbx:HeapIs w4 xb #[_,_,_,_,_] 181:=A4.out.box
     dsimp only at hbx
     have hc0:=hbx.cell 0
     have hbl:=hbx.lt
     clear hbx
     go_wp2_with fail
     clear hc0 hbl
     have hz4:0≤m4.next∧m4.next<9000:=by have:=SM4.out.2.1;omega
     refine (k7_temp H4.out ⟨hz4.1,by omega⟩).mono ?_
     rintro e w5 ⟨m5,⟨rfl,hm5⟩,h5,mv5⟩
     have H5:=Lib.hid h5
     have MV5:=Lib.hid (MV4.out.trans mv5)
     have SM5:=Lib.hid (SM4.out.mv mv5 (by decide) (by decide) (by decide))
     have A5:=Lib.hid (A4.out.mv mv5)
     clear h5 mv5 hm5
     go_wp2_with fail
     refine (k7_word H5.out (SM5.out.mono (by decide)) (m4.next) (by omega) (0) (by unfold In32;decide)).mono ?_
     rintro e w6 ⟨m6,rfl,h6,mv6⟩
     have H6:=Lib.hid h6
     have MV6:=Lib.hid (MV5.out.trans mv6)
     have SM6:=Lib.hid (SM5.out.mv mv6 (by decide) (by decide) (by decide))
     have A6:=Lib.hid (A5.out.mv mv6)
     clear h6 mv6
     have hbx:HeapIs w6 xb #[_,_,_,_,_] 181:=A6.out.box
     dsimp only at hbx
     have hc1:=hbx.cell 1
     have hbl:=hbx.lt
     clear hbx
     go_wp2_with fail
     clear hc1 hbl
     refine (k7_put H6.out (SM6.out.mono (by decide)) ⟨⟨23,dst,0,c,d,m4.next,0,[]⟩,.slice none 0 0⟩ ⟨.nil _ _,Stays.nil _ _⟩ (fun q hq=>by cases hq) (mgood (by unfold In32;omega) hdst (by omega) (by omega) (by omega) (by omega) (by omega))).mono ?_
     rintro e w7 ⟨m7,⟨rfl,hm7,hn7⟩,h7,mv7⟩
     have H7:=Lib.hid h7
     have MV7:=Lib.hid (MV6.out.trans mv7)
     have SM7:=Lib.hid (SM6.out.mv mv7 (by decide) (by decide) (by decide))
     have A7:=Lib.hid (A6.out.mv mv7)
     clear h7 mv7 hm7 hn7
     go_wp2_with fail
     go_end0
     refine⟨_,?_,H7.out,MV7.out.more (by decide) (by decide) (by decide)⟩
     exact rfl
    ·skip
     have hr4:(op==4)=false:=by simpa using h4
     have hbx:HeapIs w4 xb #[_,_,_,_,_] 181:=A4.out.box
     dsimp only at hbx
     have hc0:=hbx.cell 0
     have hc1:=hbx.cell 1
     have hbl:=hbx.lt
     clear hbx
     go_wp2_with fail
     clear hc0 hc1 hbl
     refine (k7_put H4.out (SM4.out.mono (by decide)) ⟨⟨op-2+5,dst,0,c,d,0,0,[]⟩,.slice none 0 0⟩ ⟨.nil _ _,Stays.nil _ _⟩ (fun q hq=>by cases hq) (mgood (by unfold In32;omega) hdst (by omega) (by omega) (by omega) (by omega) (.inr (.inr (.inr (.inl ⟨by omega,by omega⟩)))))).mono ?_
     rintro e w5 ⟨m5,⟨rfl,hm5,hn5⟩,h5,mv5⟩
     have H5:=Lib.hid h5
     have MV5:=Lib.hid (MV4.out.trans mv5)
     have SM5:=Lib.hid (SM4.out.mv mv5 (by decide) (by decide) (by decide))
     have A5:=Lib.hid (A4.out.mv mv5)
     clear h5 mv5 hm5 hn5
     go_wp2_with fail
     go_end0
     refine⟨_,?_,H5.out,MV5.out.more (by decide) (by decide) (by decide)⟩
     exact rfl
   ·skip
    have hz2:(q==2)=false:=by simpa using hq
    have hbx:HeapIs w4 xb #[_,_,_,_,_] 181:=A4.out.box
    dsimp only at hbx
    have hc1:=hbx.cell 1
    have hbl:=hbx.lt
    clear hbx
    go_wp2_with fail
    clear hc1 hbl
    refine (k7_put H4.out (SM4.out.mono (by decide)) ⟨⟨op-2+5,dst,0,c,d,0,0,[]⟩,.slice none 0 0⟩ ⟨.nil _ _,Stays.nil _ _⟩ (fun q hq=>by cases hq) (mgood (by unfold In32;omega) hdst (by omega) (by omega) (by omega) (by omega) (.inr (.inr (.inr (.inl ⟨by omega,by omega⟩)))))).mono ?_
    rintro e w5 ⟨m5,⟨rfl,hm5,hn5⟩,h5,mv5⟩
    have H5:=Lib.hid h5
    have MV5:=Lib.hid (MV4.out.trans mv5)
    have SM5:=Lib.hid (SM4.out.mv mv5 (by decide) (by decide) (by decide))
    have A5:=Lib.hid (A4.out.mv mv5)
    clear h5 mv5 hm5 hn5
    go_wp2_with fail
    go_end0
    refine⟨_,?_,H5.out,MV5.out.more (by decide) (by decide) (by decide)⟩
    exact rfl
set_option maxHeartbeats 1000000 in
set_option maxRecDepth 100000 in
theorem k7_memory_ld (h:K7Ok C kb sv l m w) (hs:Sm7 50 m) (x:FIns) (hx:Ints w x.av x.args∧Stays (OwnC7 C kb m) w x.av) (hg:InsGood 700 x) (hlen:x.args.length=1) (hop:x.op=15) :
  Calls Try.prog 137 #[.pointer (some ⟨kb,0,none⟩),fiv x] w (K7Q C kb sv l w m 4 4 5 fun m' e=>e=.returned (.tuple #[])):=by
 obtain⟨op,dst,tw,args,av,imm⟩:=x
 obtain⟨B,off,ac,hav⟩:=args_at hx.1 (by rw[hlen];decide)
 rw[hlen]at hav
 subst hav
 dsimp only at hx hg hlen hop
 subst hop
 obtain⟨a,hab⟩:∃ a,args=[a]:=by
  match args,hlen with
  | [a],_=>exact⟨a,rfl⟩
 subst hab
 have ha:0≤a∧a<10000:=(by have:=hg.2.1 a (by simp);omega)
 have hdst:0≤dst∧dst<10000:=by have h9:=hg.2.2.1;dsimp only at h9;omega
 have himm:=hg.1
 have hi2:=himm
 unfold In32 at hi2
 dsimp only at hi2
 unfold fiv
 dsimp only
 obtain⟨m0,hm0⟩:∃ x,x=m:=⟨_,rfl⟩
 subst hm0
 obtain⟨w1,hw1⟩:∃ z,z=w.alloc (.cells (ficells ⟨15,dst,tw,[a],.slice (some ⟨B,off,none⟩) 1 ac,imm⟩).toArray 181):=⟨_,rfl⟩
 have hs1:Since w w1:=by rw[hw1];exact (Since.refl w).alloc _
 have H1:=Lib.hid (h.keep hs1)
 have MV1:=Lib.hid ((Mv7.refl kb w m0).keep hs1)
 have SM1:=Lib.hid hs
 obtain⟨xb,hxb⟩:∃ z,z=w.heap.size:=⟨_,rfl⟩
 have A1:=Lib.hid (show Arg7 C kb xb ⟨15,dst,tw,[a],.slice (some ⟨B,off,none⟩) 1 ac,imm⟩ m0 w1 from⟨by rw[hw1,hxb];exact HeapIs.new _ _ _,fun hq=>by have:=h.ltOwn hq;omega,hx.1.keep hs1,hx.2.keep hs1⟩)
 clear h hs hx hs1
 go_enter Try.func137,Try.ntmps137
 go_upto_region 1 with fail
 rw[show (.cells #[.int .i64 15,.int .i64 dst,.int .i64 tw,.slice (some ⟨B,off,none⟩) 1 ac,.int .i32 imm] 181:Obj)=.cells (ficells ⟨15,dst,tw,[a],.slice (some ⟨B,off,none⟩) 1 ac,imm⟩).toArray 181 from rfl,←hw1,←hxb]
 clear hw1 hxb
 have hbx:HeapIs w1 xb #[_,_,_,_,_] 181:=A1.out.box
 dsimp only at hbx
 have hc3:=hbx.cell 3
 have hbl:=hbx.lt
 obtain⟨ho0,hol⟩:=A1.out.at (j:=0) rfl (show _=some a from rfl)
 rw[Nat.add_zero]at ho0
 clear hbx
 go_wp2_with fail
 clear hc3 hbl ho0 hol
 refine (k7_copied H1.out (SM1.out.mono (by decide)) (a) ha).mono ?_
 rintro e w2 ⟨m2,⟨c,rfl,hc0,hc1⟩,h2,mv2⟩
 have H2:=Lib.hid h2
 have MV2:=Lib.hid (MV1.out.trans mv2)
 have SM2:=Lib.hid (SM1.out.mv mv2 (by decide) (by decide) (by decide))
 have A2:=Lib.hid (A1.out.mv mv2)
 clear h2 mv2
 by_cases hlo:0≤imm
 ·skip
  by_cases hhi:imm≤255
  ·skip
   have h0:0≤imm:=hlo
   have h1:imm≤255:=hhi
   have hbx:HeapIs w2 xb #[_,_,_,_,_] 181:=A2.out.box
   dsimp only at hbx
   have hc4:=hbx.cell 4
   have hbl:=hbx.lt
   clear hbx
   go_wp2_with fail
   clear hc4 hbl
   refine (k7_take H2.out 3 (by decide) (by have:=SM2.out.1;omega)).mono ?_
   rintro e w3 ⟨m3,⟨q,rfl,⟨hq0,hq1⟩,hm3⟩,h3,mv3⟩
   have H3:=Lib.hid h3
   have MV3:=Lib.hid (MV2.out.trans mv3)
   have SM3:=Lib.hid (SM2.out.mv mv3 (by decide) (by decide) (by decide))
   have A3:=Lib.hid (A2.out.mv mv3)
   clear h3 mv3 hm3
   by_cases hq:0<q
   ·skip
    have hbx:HeapIs w3 xb #[_,_,_,_,_] 181:=A3.out.box
    dsimp only at hbx
    have hc0:=hbx.cell 0
    have hc1:=hbx.cell 1
    have hc4:=hbx.cell 4
    have hbl:=hbx.lt
    clear hbx
    go_wp2_with fail
    clear hc0 hc1 hc4 hbl
    refine (k7_put H3.out (SM3.out.mono (by decide)) ⟨⟨24,dst,0,c,0,0,imm,[]⟩,.slice none 0 0⟩ ⟨.nil _ _,Stays.nil _ _⟩ (fun q hq=>by cases hq) (mgood himm hdst (by omega) (by omega) (by omega) (by omega) (by omega))).mono ?_
    rintro e w4 ⟨m4,⟨rfl,hm4,hn4⟩,h4,mv4⟩
    have H4:=Lib.hid h4
    have MV4:=Lib.hid (MV3.out.trans mv4)
    have SM4:=Lib.hid (SM3.out.mv mv4 (by decide) (by decide) (by decide))
    have A4:=Lib.hid (A3.out.mv mv4)
    clear h4 mv4 hm4 hn4
    go_wp2_with fail
    go_end0
    refine⟨_,?_,H4.out,MV4.out.more (by decide) (by decide) (by decide)⟩
    exact rfl
   ·skip
    go_wp2_with fail
    have hz3:0≤m3.next∧m3.next<9000:=by have:=SM3.out.2.1;omega
    refine (k7_temp H3.out ⟨hz3.1,by omega⟩).mono ?_
    rintro e w4 ⟨m4,⟨rfl,hm4⟩,h4,mv4⟩
    have H4:=Lib.hid h4
    have MV4:=Lib.hid (MV3.out.trans mv4)
    have SM4:=Lib.hid (SM3.out.mv mv4 (by decide) (by decide) (by decide))
    have A4:=Lib.hid (A3.out.mv mv4)
    clear h4 mv4 hm4
    have hbx:HeapIs w4 xb #[_,_,_,_,_] 181:=A4.out.box
    dsimp only at hbx
    have hc4:=hbx.cell 4
    have hbl:=hbx.lt
    clear hbx
    go_wp2_with fail
    clear hc4 hbl
    refine (k7_word H4.out (SM4.out.mono (by decide)) (m3.next) (by omega) (imm) himm).mono ?_
    rintro e w5 ⟨m5,rfl,h5,mv5⟩
    have H5:=Lib.hid h5
    have MV5:=Lib.hid (MV4.out.trans mv5)
    have SM5:=Lib.hid (SM4.out.mv mv5 (by decide) (by decide) (by decide))
    have A5:=Lib.hid (A4.out.mv mv5)
    clear h5 mv5
    have hbx:HeapIs w5 xb #[_,_,_,_,_] 181:=A5.out.box
    dsimp only at hbx
    have hc0:=hbx.cell 0
    have hc1:=hbx.cell 1
    have hbl:=hbx.lt
    clear hbx
    go_wp2_with fail
    clear hc0 hc1 hbl
    refine (k7_put H5.out (SM5.out.mono (by decide)) ⟨⟨25,dst,0,c,m3.next,0,0,[]⟩,.slice none 0 0⟩ ⟨.nil _ _,Stays.nil _ _⟩ (fun q hq=>by cases hq) (mgood (by unfold In32;omega) hdst (by omega) (by omega) (by omega) (by omega) (by omega))).mono ?_
    rintro e w6 ⟨m6,⟨rfl,hm6,hn6⟩,h6,mv6⟩
    have H6:=Lib.hid h6
    have MV6:=Lib.hid (MV5.out.trans mv6)
    have SM6:=Lib.hid (SM5.out.mv mv6 (by decide) (by decide) (by decide))
    have A6:=Lib.hid (A5.out.mv mv6)
    clear h6 mv6 hm6 hn6
    go_wp2_with fail
    go_end0
    refine⟨_,?_,H6.out,MV6.out.more (by decide) (by decide) (by decide)⟩
    exact rfl
  ·skip
   have hbx:HeapIs w2 xb #[_,_,_,_,_] 181:=A2.out.box
   dsimp only at hbx
   have hc4:=hbx.cell 4
   have hbl:=hbx.lt
   clear hbx
   go_upto_region 6 with fail
   clear hc4 hbl
   go_wp2_with fail
   have hz2:0≤m2.next∧m2.next<9000:=by have:=SM2.out.2.1;omega
   refine (k7_temp H2.out ⟨hz2.1,by omega⟩).mono ?_
   rintro e w3 ⟨m3,⟨rfl,hm3⟩,h3,mv3⟩
   have H3:=Lib.hid h3
   have MV3:=Lib.hid (MV2.out.trans mv3)
   have SM3:=Lib.hid (SM2.out.mv mv3 (by decide) (by decide) (by decide))
   have A3:=Lib.hid (A2.out.mv mv3)
   clear h3 mv3 hm3
   have hbx:HeapIs w3 xb #[_,_,_,_,_] 181:=A3.out.box
   dsimp only at hbx
   have hc4:=hbx.cell 4
   have hbl:=hbx.lt
   clear hbx
   go_wp2_with fail
   clear hc4 hbl
   refine (k7_word H3.out (SM3.out.mono (by decide)) (m2.next) (by omega) (imm) himm).mono ?_
   rintro e w4 ⟨m4,rfl,h4,mv4⟩
   have H4:=Lib.hid h4
   have MV4:=Lib.hid (MV3.out.trans mv4)
   have SM4:=Lib.hid (SM3.out.mv mv4 (by decide) (by decide) (by decide))
   have A4:=Lib.hid (A3.out.mv mv4)
   clear h4 mv4
   have hbx:HeapIs w4 xb #[_,_,_,_,_] 181:=A4.out.box
   dsimp only at hbx
   have hc0:=hbx.cell 0
   have hc1:=hbx.cell 1
   have hbl:=hbx.lt
   clear hbx
   go_wp2_with fail
   clear hc0 hc1 hbl
   refine (k7_put H4.out (SM4.out.mono (by decide)) ⟨⟨25,dst,0,c,m2.next,0,0,[]⟩,.slice none 0 0⟩ ⟨.nil _ _,Stays.nil _ _⟩ (fun q hq=>by cases hq) (mgood (by unfold In32;omega) hdst (by omega) (by omega) (by omega) (by omega) (by omega))).mono ?_
   rintro e w5 ⟨m5,⟨rfl,hm5,hn5⟩,h5,mv5⟩
   have H5:=Lib.hid h5
   have MV5:=Lib.hid (MV4.out.trans mv5)
   have SM5:=Lib.hid (SM4.out.mv mv5 (by decide) (by decide) (by decide))
   have A5:=Lib.hid (A4.out.mv mv5)
   clear h5 mv5 hm5 hn5
   go_wp2_with fail
   go_end0
   refine⟨_,?_,H5.out,MV5.out.more (by decide) (by decide) (by decide)⟩
   exact rfl
 ·skip
  have hbx:HeapIs w2 xb #[_,_,_,_,_] 181:=A2.out.box
  dsimp only at hbx
  have hc4:=hbx.cell 4
  have hbl:=hbx.lt
  clear hbx
  go_upto_region 6 with fail
  clear hc4 hbl
  go_wp2_with fail
  have hz2:0≤m2.next∧m2.next<9000:=by have:=SM2.out.2.1;omega
  refine (k7_temp H2.out ⟨hz2.1,by omega⟩).mono ?_
  rintro e w3 ⟨m3,⟨rfl,hm3⟩,h3,mv3⟩
  have H3:=Lib.hid h3
  have MV3:=Lib.hid (MV2.out.trans mv3)
  have SM3:=Lib.hid (SM2.out.mv mv3 (by decide) (by decide) (by decide))
  have A3:=Lib.hid (A2.out.mv mv3)
  clear h3 mv3 hm3
  have hbx:HeapIs w3 xb #[_,_,_,_,_] 181:=A3.out.box
  dsimp only at hbx
  have hc4:=hbx.cell 4
  have hbl:=hbx.lt
  clear hbx
  go_wp2_with fail
  clear hc4 hbl
  refine (k7_word H3.out (SM3.out.mono (by decide)) (m2.next) (by omega) (imm) himm).mono ?_
  rintro e w4 ⟨m4,rfl,h4,mv4⟩
  have H4:=Lib.hid h4
  have MV4:=Lib.hid (MV3.out.trans mv4)
  have SM4:=Lib.hid (SM3.out.mv mv4 (by decide) (by decide) (by decide))
  have A4:=Lib.hid (A3.out.mv mv4)
  clear h4 mv4
  have hbx:HeapIs w4 xb #[_,_,_,_,_] 181:=A4.out.box
  dsimp only at hbx
  have hc0:=hbx.cell 0
  have hc1:=hbx.cell 1
  have hbl:=hbx.lt
  clear hbx
  go_wp2_with fail
  clear hc0 hc1 hbl
  refine (k7_put H4.out (SM4.out.mono (by decide)) ⟨⟨25,dst,0,c,m2.next,0,0,[]⟩,.slice none 0 0⟩ ⟨.nil _ _,Stays.nil _ _⟩ (fun q hq=>by cases hq) (mgood (by unfold In32;omega) hdst (by omega) (by omega) (by omega) (by omega) (by omega))).mono ?_
  rintro e w5 ⟨m5,⟨rfl,hm5,hn5⟩,h5,mv5⟩
  have H5:=Lib.hid h5
  have MV5:=Lib.hid (MV4.out.trans mv5)
  have SM5:=Lib.hid (SM4.out.mv mv5 (by decide) (by decide) (by decide))
  have A5:=Lib.hid (A4.out.mv mv5)
  clear h5 mv5 hm5 hn5
  go_wp2_with fail
  go_end0
  refine⟨_,?_,H5.out,MV5.out.more (by decide) (by decide) (by decide)⟩
  exact rfl
set_option maxHeartbeats 1000000 in
set_option maxRecDepth 100000 in
theorem k7_memory_st (h:K7Ok C kb sv l m w) (hs:Sm7 50 m) (x:FIns) (hx:Ints w x.av x.args∧Stays (OwnC7 C kb m) w x.av) (hg:InsGood 700 x) (hlen:x.args.length=2) (hop:x.op=16) :
  Calls Try.prog 137 #[.pointer (some ⟨kb,0,none⟩),fiv x] w (K7Q C kb sv l w m 4 4 5 fun m' e=>e=.returned (.tuple #[])):=by
 obtain⟨op,dst,tw,args,av,imm⟩:=x
 obtain⟨B,off,ac,hav⟩:=args_at hx.1 (by rw[hlen];decide)
 rw[hlen]at hav
 subst hav
 dsimp only at hx hg hlen hop
 subst hop
 obtain⟨a,b,hab⟩:∃ a b,args=[a,b]:=by
  match args,hlen with
  | [a,b],_=>exact⟨a,b,rfl⟩
 subst hab
 have ha:0≤a∧a<10000:=(by have:=hg.2.1 a (by simp);omega)
 have hb:0≤b∧b<10000:=(by have:=hg.2.1 b (by simp);omega)
 have hdst:0≤dst∧dst<10000:=by have h9:=hg.2.2.1;dsimp only at h9;omega
 have himm:=hg.1
 have hi2:=himm
 unfold In32 at hi2
 dsimp only at hi2
 unfold fiv
 dsimp only
 obtain⟨m0,hm0⟩:∃ x,x=m:=⟨_,rfl⟩
 subst hm0
 obtain⟨w1,hw1⟩:∃ z,z=w.alloc (.cells (ficells ⟨16,dst,tw,[a,b],.slice (some ⟨B,off,none⟩) 2 ac,imm⟩).toArray 181):=⟨_,rfl⟩
 have hs1:Since w w1:=by rw[hw1];exact (Since.refl w).alloc _
 have H1:=Lib.hid (h.keep hs1)
 have MV1:=Lib.hid ((Mv7.refl kb w m0).keep hs1)
 have SM1:=Lib.hid hs
 obtain⟨xb,hxb⟩:∃ z,z=w.heap.size:=⟨_,rfl⟩
 have A1:=Lib.hid (show Arg7 C kb xb ⟨16,dst,tw,[a,b],.slice (some ⟨B,off,none⟩) 2 ac,imm⟩ m0 w1 from⟨by rw[hw1,hxb];exact HeapIs.new _ _ _,fun hq=>by have:=h.ltOwn hq;omega,hx.1.keep hs1,hx.2.keep hs1⟩)
 clear h hs hx hs1
 go_enter Try.func137,Try.ntmps137
 go_upto_region 1 with fail
 rw[show (.cells #[.int .i64 16,.int .i64 dst,.int .i64 tw,.slice (some ⟨B,off,none⟩) 2 ac,.int .i32 imm] 181:Obj)=.cells (ficells ⟨16,dst,tw,[a,b],.slice (some ⟨B,off,none⟩) 2 ac,imm⟩).toArray 181 from rfl,←hw1,←hxb]
 clear hw1 hxb
 have hbx:HeapIs w1 xb #[_,_,_,_,_] 181:=A1.out.box
 dsimp only at hbx
 have hc3:=hbx.cell 3
 have hbl:=hbx.lt
 obtain⟨ho0,hol⟩:=A1.out.at (j:=0) rfl (show _=some a from rfl)
 rw[Nat.add_zero]at ho0
 clear hbx
 go_wp2_with fail
 clear hc3 hbl ho0 hol
 refine (k7_copied H1.out (SM1.out.mono (by decide)) (a) ha).mono ?_
 rintro e w2 ⟨m2,⟨c,rfl,hc0,hc1⟩,h2,mv2⟩
 have H2:=Lib.hid h2
 have MV2:=Lib.hid (MV1.out.trans mv2)
 have SM2:=Lib.hid (SM1.out.mv mv2 (by decide) (by decide) (by decide))
 have A2:=Lib.hid (A1.out.mv mv2)
 clear h2 mv2
 by_cases hlo:0≤imm
 ·skip
  by_cases hhi:imm≤255
  ·skip
   have h0:0≤imm:=hlo
   have h1:imm≤255:=hhi
   have hbx:HeapIs w2 xb #[_,_,_,_,_] 181:=A2.out.box
   dsimp only at hbx
   have hc4:=hbx.cell 4
   have hbl:=hbx.lt
   clear hbx
   go_wp2_with fail
   clear hc4 hbl
   refine (k7_take H2.out 3 (by decide) (by have:=SM2.out.1;omega)).mono ?_
   rintro e w3 ⟨m3,⟨q,rfl,⟨hq0,hq1⟩,hm3⟩,h3,mv3⟩
   have H3:=Lib.hid h3
   have MV3:=Lib.hid (MV2.out.trans mv3)
   have SM3:=Lib.hid (SM2.out.mv mv3 (by decide) (by decide) (by decide))
   have A3:=Lib.hid (A2.out.mv mv3)
   clear h3 mv3 hm3
   by_cases hq:0<q
   ·skip
    have hbx:HeapIs w3 xb #[_,_,_,_,_] 181:=A3.out.box
    dsimp only at hbx
    have hc0:=hbx.cell 0
    have hbl:=hbx.lt
    clear hbx
    go_upto_region 5 with fail
    clear hc0 hbl
    refine wp_region_since_tail 9 rfl (by decide +kernel) (by decide +kernel) (by decide +kernel) (by decide)
     [Is (.pointer (some ⟨kb,0,none⟩)),Is (.int .i64 c),Is (.pointer (some ⟨xb,3,none⟩)),Is (.slice (some ⟨B,off,none⟩) 2 ac),Is (.pointer (some ⟨B,off+1,none⟩)),Is (.int .i64 b),Is (.pointer (some ⟨xb,4,none⟩)),Is (.int .i32 imm),Is (.agg #[.int .i64 26,.int .i64 0,.int .i64 0,.int .i64 c,.int .i64 b,.int .i64 0,.int .i32 imm,.slice none 0 0])]
     (by repeat (first | exact trivial | refine⟨Is.stable _,?_⟩ | refine⟨Any.stable,?_⟩ | refine⟨IsNums.stable _ _,?_⟩)) ⟨?_,?_,?_,?_,?_,?_,?_,?_,?_,trivial⟩ ?_
    rotate_right
    ·intro vs w4 hs hk
     simp only[List.take,List.drop,putAll,Act.put,KnowsAll,nthF,Is,List.setIfInBounds_toArray,List.set_cons_zero,List.set_cons_succ,Nat.reduceAdd]at hk ⊢
     try simp only[hk]
     obtain⟨m4,hm4⟩:∃ x,x=m3:=⟨_,rfl⟩
     have H4:=Lib.hid (H3.out.keep hs)
     have MV4:=Lib.hid (MV3.out.keep hs)
     have SM4:=SM3
     have A4:=Lib.hid (A3.out.keep hs)
     rw[←hm4]at H4 MV4 SM4 A4
     clear hs hk hm4
     go_wp2_with fail
     refine (k7_put H4.out (SM4.out.mono (by decide)) ⟨⟨26,0,0,c,b,0,imm,[]⟩,.slice none 0 0⟩ ⟨.nil _ _,Stays.nil _ _⟩ (fun q hq=>by cases hq) (mgood himm (by omega) (by omega) (by omega) (by omega) (by omega) (by omega))).mono ?_
     rintro e w5 ⟨m5,⟨rfl,hm5,hn5⟩,h5,mv5⟩
     have H5:=Lib.hid h5
     have MV5:=Lib.hid (MV4.out.trans mv5)
     have SM5:=Lib.hid (SM4.out.mv mv5 (by decide) (by decide) (by decide))
     have A5:=Lib.hid (A4.out.mv mv5)
     clear h5 mv5 hm5 hn5
     go_wp2_with fail
     go_end0
     refine⟨_,?_,H5.out,MV5.out.more (by decide) (by decide) (by decide)⟩
     exact rfl
    all_goals
     intro vs w4 hs hk _
     simp only[List.take,putAll,Act.put,Knows,nthF,Is,List.setIfInBounds_toArray,List.set_cons_zero,List.set_cons_succ,Nat.reduceAdd]at hk ⊢
     try simp only[hk]
    ·go_wp2
     exact⟨_,rfl,rfl,Since.refl _⟩
    ·go_wp2
     exact⟨_,rfl,rfl,Since.refl _⟩
    ·go_wp2
     exact⟨_,rfl,rfl,Since.refl _⟩
    ·have hbx:HeapIs w4 xb #[_,_,_,_,_] 181:=(A3.out.keep hs).box
     dsimp only at hbx
     have hc:=hbx.cell 3
     have hl:=hbx.lt
     clear hbx
     go_wp2
     exact⟨_,rfl,rfl,Since.refl _⟩
    ·go_wp2
     exact⟨_,rfl,rfl,Since.refl _⟩
    ·obtain⟨hc,hl⟩:=(A3.out.keep hs).at (j:=1) rfl (show _=some b from rfl)
     go_wp2
     exact⟨_,rfl,rfl,Since.refl _⟩
    ·go_wp2
     exact⟨_,rfl,rfl,Since.refl _⟩
    ·have hbx:HeapIs w4 xb #[_,_,_,_,_] 181:=(A3.out.keep hs).box
     dsimp only at hbx
     have hc:=hbx.cell 4
     have hl:=hbx.lt
     clear hbx
     go_wp2
     exact⟨_,rfl,rfl,Since.refl _⟩
    ·go_wp2
     exact⟨_,rfl,rfl,Since.refl _⟩
   ·skip
    go_wp2_with fail
    have hz3:0≤m3.next∧m3.next<9000:=by have:=SM3.out.2.1;omega
    refine (k7_temp H3.out ⟨hz3.1,by omega⟩).mono ?_
    rintro e w4 ⟨m4,⟨rfl,hm4⟩,h4,mv4⟩
    have H4:=Lib.hid h4
    have MV4:=Lib.hid (MV3.out.trans mv4)
    have SM4:=Lib.hid (SM3.out.mv mv4 (by decide) (by decide) (by decide))
    have A4:=Lib.hid (A3.out.mv mv4)
    clear h4 mv4 hm4
    have hbx:HeapIs w4 xb #[_,_,_,_,_] 181:=A4.out.box
    dsimp only at hbx
    have hc4:=hbx.cell 4
    have hbl:=hbx.lt
    clear hbx
    go_wp2_with fail
    clear hc4 hbl
    refine (k7_word H4.out (SM4.out.mono (by decide)) (m3.next) (by omega) (imm) himm).mono ?_
    rintro e w5 ⟨m5,rfl,h5,mv5⟩
    have H5:=Lib.hid h5
    have MV5:=Lib.hid (MV4.out.trans mv5)
    have SM5:=Lib.hid (SM4.out.mv mv5 (by decide) (by decide) (by decide))
    have A5:=Lib.hid (A4.out.mv mv5)
    clear h5 mv5
    have hbx:HeapIs w5 xb #[_,_,_,_,_] 181:=A5.out.box
    dsimp only at hbx
    have hc0:=hbx.cell 0
    have hc3:=hbx.cell 3
    have hbl:=hbx.lt
    obtain⟨ho1,hol⟩:=A5.out.at (j:=1) rfl (show _=some b from rfl)
    clear hbx
    go_wp2_with fail
    clear hc0 hc3 hbl ho1 hol
    refine (k7_put H5.out (SM5.out.mono (by decide)) ⟨⟨27,0,0,c,m3.next,b,0,[]⟩,.slice none 0 0⟩ ⟨.nil _ _,Stays.nil _ _⟩ (fun q hq=>by cases hq) (mgood (by unfold In32;omega) (by omega) (by omega) (by omega) (by omega) (by omega) (by omega))).mono ?_
    rintro e w6 ⟨m6,⟨rfl,hm6,hn6⟩,h6,mv6⟩
    have H6:=Lib.hid h6
    have MV6:=Lib.hid (MV5.out.trans mv6)
    have SM6:=Lib.hid (SM5.out.mv mv6 (by decide) (by decide) (by decide))
    have A6:=Lib.hid (A5.out.mv mv6)
    clear h6 mv6 hm6 hn6
    go_wp2_with fail
    go_end0
    refine⟨_,?_,H6.out,MV6.out.more (by decide) (by decide) (by decide)⟩
    exact rfl
  ·skip
   have hbx:HeapIs w2 xb #[_,_,_,_,_] 181:=A2.out.box
   dsimp only at hbx
   have hc4:=hbx.cell 4
   have hbl:=hbx.lt
   clear hbx
   go_upto_region 6 with fail
   clear hc4 hbl
   go_wp2_with fail
   have hz2:0≤m2.next∧m2.next<9000:=by have:=SM2.out.2.1;omega
   refine (k7_temp H2.out ⟨hz2.1,by omega⟩).mono ?_
   rintro e w3 ⟨m3,⟨rfl,hm3⟩,h3,mv3⟩
   have H3:=Lib.hid h3
   have MV3:=Lib.hid (MV2.out.trans mv3)
   have SM3:=Lib.hid (SM2.out.mv mv3 (by decide) (by decide) (by decide))
   have A3:=Lib.hid (A2.out.mv mv3)
   clear h3 mv3 hm3
   have hbx:HeapIs w3 xb #[_,_,_,_,_] 181:=A3.out.box
   dsimp only at hbx
   have hc4:=hbx.cell 4
   have hbl:=hbx.lt
   clear hbx
   go_wp2_with fail
   clear hc4 hbl
   refine (k7_word H3.out (SM3.out.mono (by decide)) (m2.next) (by omega) (imm) himm).mono ?_
   rintro e w4 ⟨m4,rfl,h4,mv4⟩
   have H4:=Lib.hid h4
   have MV4:=Lib.hid (MV3.out.trans mv4)
   have SM4:=Lib.hid (SM3.out.mv mv4 (by decide) (by decide) (by decide))
   have A4:=Lib.hid (A3.out.mv mv4)
   clear h4 mv4
   have hbx:HeapIs w4 xb #[_,_,_,_,_] 181:=A4.out.box
   dsimp only at hbx
   have hc0:=hbx.cell 0
   have hc3:=hbx.cell 3
   have hbl:=hbx.lt
   obtain⟨ho1,hol⟩:=A4.out.at (j:=1) rfl (show _=some b from rfl)
   clear hbx
   go_wp2_with fail
   clear hc0 hc3 hbl ho1 hol
   refine (k7_put H4.out (SM4.out.mono (by decide)) ⟨⟨27,0,0,c,m2.next,b,0,[]⟩,.slice none 0 0⟩ ⟨.nil _ _,Stays.nil _ _⟩ (fun q hq=>by cases hq) (mgood (by unfold In32;omega) (by omega) (by omega) (by omega) (by omega) (by omega) (by omega))).mono ?_
   rintro e w5 ⟨m5,⟨rfl,hm5,hn5⟩,h5,mv5⟩
   have H5:=Lib.hid h5
   have MV5:=Lib.hid (MV4.out.trans mv5)
   have SM5:=Lib.hid (SM4.out.mv mv5 (by decide) (by decide) (by decide))
   have A5:=Lib.hid (A4.out.mv mv5)
   clear h5 mv5 hm5 hn5
   go_wp2_with fail
   go_end0
   refine⟨_,?_,H5.out,MV5.out.more (by decide) (by decide) (by decide)⟩
   exact rfl
 ·skip
  have hbx:HeapIs w2 xb #[_,_,_,_,_] 181:=A2.out.box
  dsimp only at hbx
  have hc4:=hbx.cell 4
  have hbl:=hbx.lt
  clear hbx
  go_upto_region 6 with fail
  clear hc4 hbl
  go_wp2_with fail
  have hz2:0≤m2.next∧m2.next<9000:=by have:=SM2.out.2.1;omega
  refine (k7_temp H2.out ⟨hz2.1,by omega⟩).mono ?_
  rintro e w3 ⟨m3,⟨rfl,hm3⟩,h3,mv3⟩
  have H3:=Lib.hid h3
  have MV3:=Lib.hid (MV2.out.trans mv3)
  have SM3:=Lib.hid (SM2.out.mv mv3 (by decide) (by decide) (by decide))
  have A3:=Lib.hid (A2.out.mv mv3)
  clear h3 mv3 hm3
  have hbx:HeapIs w3 xb #[_,_,_,_,_] 181:=A3.out.box
  dsimp only at hbx
  have hc4:=hbx.cell 4
  have hbl:=hbx.lt
  clear hbx
  go_wp2_with fail
  clear hc4 hbl
  refine (k7_word H3.out (SM3.out.mono (by decide)) (m2.next) (by omega) (imm) himm).mono ?_
  rintro e w4 ⟨m4,rfl,h4,mv4⟩
  have H4:=Lib.hid h4
  have MV4:=Lib.hid (MV3.out.trans mv4)
  have SM4:=Lib.hid (SM3.out.mv mv4 (by decide) (by decide) (by decide))
  have A4:=Lib.hid (A3.out.mv mv4)
  clear h4 mv4
  have hbx:HeapIs w4 xb #[_,_,_,_,_] 181:=A4.out.box
  dsimp only at hbx
  have hc0:=hbx.cell 0
  have hc3:=hbx.cell 3
  have hbl:=hbx.lt
  obtain⟨ho1,hol⟩:=A4.out.at (j:=1) rfl (show _=some b from rfl)
  clear hbx
  go_wp2_with fail
  clear hc0 hc3 hbl ho1 hol
  refine (k7_put H4.out (SM4.out.mono (by decide)) ⟨⟨27,0,0,c,m2.next,b,0,[]⟩,.slice none 0 0⟩ ⟨.nil _ _,Stays.nil _ _⟩ (fun q hq=>by cases hq) (mgood (by unfold In32;omega) (by omega) (by omega) (by omega) (by omega) (by omega) (by omega))).mono ?_
  rintro e w5 ⟨m5,⟨rfl,hm5,hn5⟩,h5,mv5⟩
  have H5:=Lib.hid h5
  have MV5:=Lib.hid (MV4.out.trans mv5)
  have SM5:=Lib.hid (SM4.out.mv mv5 (by decide) (by decide) (by decide))
  have A5:=Lib.hid (A4.out.mv mv5)
  clear h5 mv5 hm5 hn5
  go_wp2_with fail
  go_end0
  refine⟨_,?_,H5.out,MV5.out.more (by decide) (by decide) (by decide)⟩
  exact rfl
end
end Go.Proofs.Ytkpbmbhejpmboaa
