import Derived.Test.YtimpddecdodddaaGreatSt13
namespace Go.Proofs.YtimpddecdodddaaGreat
open Go.Proofs.Tryz Go.RowKit Go.Lib
set_option linter.unusedVariables false
set_option maxHeartbeats 4000000
set_option maxRecDepth 100000
theorem zy {P:Prop} (h:P:=by
 skip
 go_wp2_with fail
 refine (Yu H0.out (SM0.out.mono (by decide)) ⟨⟨4,d,0,0,0,0,n,[]⟩,.slice none 0 0⟩ ⟨.nil _ _,Stays.nil _ _⟩ (fun q hq=>by cases hq) (YN hn hd (by omega) (by omega) (by omega) (by omega) (by omega))).mono ?_;rintro e w1 ⟨m1,⟨rfl,hb,hc⟩,h1,mv1⟩;have H1:=hid h1;have MV1:=hid (MV0.out.trans mv1);have SM1:=hid (SM0.out.mv mv1);clear h1 mv1 hb hc;go_wp2_with fail
 go_end0
 refine⟨_,?_,H1.out,MV1.out.more⟩;exact rfl):P:=h
theorem qj {P:Prop} (h:P:=by
 rintro e w2 ⟨m2,⟨rfl,he,ha⟩,h2,mv2⟩;have H2:=hid h2;have MV2:=hid (MV1.out.trans mv2);have SM2:=hid (SM1.out.mv mv2);clear h2 mv2 he ha;go_wp2_with fail
 go_end0
 refine⟨_,?_,H2.out,MV2.out.more⟩;exact rfl):P:=h
def mav (x:MaV):Value:=.agg #[.int .i64 x.m.op,.int .i64 x.m.d,.int .i64 x.m.e,.int .i64 x.m.a,.int .i64 x.m.b,.int .i64 x.m.c,.int .i32 x.m.imm,x.av]
def Vv (S:Nat→Prop) (x:MaV) (v:Value) (w:World):Prop:=∃ b,v=.slice (some ⟨b,0,none⟩) 1 1∧HeapIs w b (Yd x).toArray 36∧¬ S b
theorem Vv.stable (S:Nat→Prop) (x:MaV):ZH (Vv S x):=fun v w w' ⟨b,h1,h2,h3⟩ s=>⟨b,h1,h2.keep s,h3⟩
theorem Vv.stableT (S:Nat→Prop) (x:MaV):Yw S (Vv S x):=fun v w w' ⟨b,h1,h2,h3⟩ t=>⟨b,h1,h2.turn t h3,h3⟩
def JU (w0:World) (base:Nat) (v0:Value) (xs:List MaV) (v:Value) (w:World):Prop:=∃ wa,Since w0 wa∧Zb (fun q=>v0.ownBlock=some q) wa w∧Yb wa v0 v∧OwnRow Yd 8 36 base w v xs
theorem JU.stable (w0:World) (base:Nat) (v0:Value) (xs:List MaV):ZH (JU w0 base v0 xs):=fun v w w' ⟨wa,h1,h2,h3,h4⟩ s=>⟨wa,h1,h2.trans (Zb.since s),h3,h4.keep s⟩
structure V7 (w:World) (kb:Nat) (x:MaV) (m:K7) (sv:Value) (w1:World):Prop where
 made:HeapIs w1 kb #[sv,.int .i64 m.at_,.int .i64 m.next,m.lv] 172
 box:HeapIs w1 w.heap.size (Yd x).toArray 36
def Zd3 (w0 w:World) (kb:Nat) (x:MaV) (m:K7) (sv:Value) (p:Nat) (w1:World):Prop:=V7 w kb x m sv w1∧(p=0→Since w0 w1)
theorem V7.keep {w w1 w2:World} {kb:Nat} {x : MaV} {m : K7} {sv:Value} (h:V7 w kb x m sv w1) (s:Since w1 w2):V7 w kb x m sv w2:=⟨h.made.keep s,h.box.keep s⟩
theorem V7.turn {S : Nat→Prop} {w w1 w2:World} {kb:Nat} {x : MaV} {m : K7} {sv:Value} (h:V7 w kb x m sv w1) (t:Zb S w1 w2) (hn:¬ S kb∧¬ S w.heap.size):V7 w kb x m sv w2:=⟨h.made.turn t hn.1,h.box.turn t hn.2⟩
section
variable {C : Nat→Prop} {kb:Nat} {sv:Value} {l : List Int} {m : K7} {w : World}
theorem Yu (h:K7Ok C kb sv l m w) (hs:Sm7 80 m) (x:MaV) (hx:Zd w x.av x.m.args∧Stays (ZT C kb m) w x.av) (hB:∀ q,x.av.ownBlock=some q→m.base≤q) (hg:MGood x.m) :
  Calls prog 138 #[.pointer (some ⟨kb,0,none⟩),mav x] w (K7Q C kb sv l w m 0 0 1 fun m' e=>e=.returned (.tuple #[])∧m'.next=m.next∧m'.at_=m.at_):=by
 obtain⟨hM,hh,hL⟩:=hs;obtain⟨ia,ic,hf⟩:=Ze (show w.ownsRow _ _ _ _ _ _ from h.row);obtain⟨il,hj⟩:∃ n,m.l.length=n:=⟨_,rfl⟩
 rw[hj]at hf hL;obtain⟨w0,ho⟩:∃ w0,w0=w.alloc (.cells (Yd x).toArray 36):=⟨_,rfl⟩
 have hb:Since w w0:=by rw[ho];exact (Since.refl w).alloc _
 have hr:HeapIs w0 w.heap.size (Yd x).toArray 36:=by rw[ho];exact HeapIs.new _ _ _
 have hA:=hid (h.keep hb);have hz:=zH (OwnRow Yd 8 36 m.base w0 (.slice ia il ic) m.l) (by rw[←hf];exact h.row.keep hb);have hJ:=zH (Zd3 w0 w kb x m sv 0 w0.drew) ⟨⟨h.made.keep (hb.trans (Since.refl _).drew),hr.keep (Since.refl _).drew⟩,fun _=>(Since.refl _).drew⟩
 have hU:=zH (∀ q,(Value.slice ia il ic).ownBlock=some q→q<w0.heap.size) (fun q hq=>ZR hz.out hq)
 have hT:=hid (show ¬ (Value.slice ia il ic).ownBlock=some kb∧¬ (Value.slice ia il ic).ownBlock=some w.heap.size from by
  rw[←hf];exact⟨h.kb_row,fun e=>by have:=ZR h.row e;omega⟩)
 have hI:=zH ((#[sv,.int .i64 m.at_,.int .i64 m.next,m.lv]:Array Value)[3]? = some (.slice ia il ic)) (by rw[←hf];rfl);have hV:=zH (x.av.oneCell'=true) (by obtain⟨a,c,e⟩:=Zc hx.1;rw[e];rfl);have HX:=hid hx;have HG:=hid hg;have hP:=hid hB;have hH:=hid hf;have hn:=hid hj;have hi:=hid hb;clear h hx hg hB hf hj hb hr hM hh;go_enter func138,ntmps138
 unfold mav;go_wp2_with fail
 rw[show (.cells #[.int .i64 x.m.op,.int .i64 x.m.d,.int .i64 x.m.e,.int .i64 x.m.a,.int .i64 x.m.b,.int .i64 x.m.c,.int .i32 x.m.imm,x.av] 36:Obj)=.cells (Yd x).toArray 36 from rfl,←ho];clear ho;refine Xa 8 7 [7] [0,0,0,0,0,0,0,0] [1,0,0,0,0,0,0,0] [0,0,0,0,0,0,0,1] (fun q=>(Value.slice ia il ic).ownBlock=some q) (Zd3 w0 w kb x m sv) rfl zaC zaC zaC zaJ zaC
  [Is (.pointer (some ⟨kb,0,none⟩)),Is (.pointer (some ⟨kb,0,none⟩)),Is (.pointer (some ⟨kb,0,none⟩)),Is (.pointer (some ⟨kb,3,none⟩)),Is (.slice ia il ic),Is (mav x),Vv (fun q=>(Value.slice ia il ic).ownBlock=some q) x,JU w0 m.base (.slice ia il ic) (m.l++[x])]
  (by repeat (first | exact trivial | refine⟨fun h=>absurd rfl h,?_⟩ | refine⟨fun _=>Is.stableT _ _,?_⟩ | refine⟨fun _=>Any.stableT _,?_⟩ | refine⟨fun _=>Vv.stableT _ _,?_⟩)) (by repeat (first | exact trivial | refine⟨Is.stable _,?_⟩ | refine⟨Any.stable,?_⟩ | refine⟨Vv.stable _ _,?_⟩ | refine⟨JU.stable _ _ _ _,?_⟩)) hJ.out ⟨?_,?_,?_,?_,?_,?_,?_,?_,trivial⟩ ?_
 rotate_right
 ·intro vs w2 ht ha hk;revert hk;refine zs0 ?_;intro hk
  obtain⟨wa,hD,hC,he,hd⟩:JU w0 m.base (.slice ia il ic) (m.l++[x]) (vs 7) w2:=by exact hk.2.2.2.2.2.2.2.1
  generalize vs 7=nv at *;have hZ:w2.cell? ⟨kb,3,none⟩=some (.slice ia il ic):=(ha.1.made.cell 3).trans hI.out;have hY:=ha.1.made.frozen;have hl:=ha.1.made.lt;have hv:=hid ha.1;have hu:=hid hD;have hQ:=hid hC;have hK:=hid he;have hm:=hid hd;clear hk ha ht hD hC he hd;obtain⟨na,nc,hE⟩:=Ze (show w2.ownsRow _ _ _ _ _ _ from hm.out);rw[show (m.l++[x]).length=il+1 from by rw[List.length_append,hn.out];rfl]at hE
  subst hE;go_wp2_with fail
  go_end0
  have t2:Zb (fun q=>q=kb) w2 (w2.setCell ⟨kb,3,none⟩ (.slice na (il+1) nc)):=(Zb.refl (fun q=>q=kb) w2).setCell (p:=⟨kb,3,none⟩) rfl _;have hy:=(hA.out.keep hu.out).put (x:=x) hm.out (by rw[hH.out];exact hQ.out) (by rw[hH.out];exact hK.out) t2 (hv.out.made.set 3 _) ⟨HX.out.1.keep (hi.out.trans hu.out),HX.out.2.keep (hi.out.trans hu.out)⟩ hP.out HG.out (Zn hm.out hv.out.made zaJ);exact⟨{ m with l:=m.l++[x],lv:=.slice na (il+1) nc },⟨rfl,rfl,rfl⟩,hy.1,Mv7.since (hi.out.trans hu.out) hy.2⟩
 all_goals
  intro p vs w2 hW hX ht ha hk;revert hk;refine zs1 ?_;intro hk
 iterate 4
  ·exact kw
 ·have hc:w2.cell? ⟨kb,3,none⟩=some (.slice ia il ic):=(ha.1.made.cell 3).trans hI.out;have hl:=ha.1.made.lt;exact kw
 ·have hr:=ha.1.box;clear hk;refine wpList_load_row rfl _ _ rfl w.heap.size rfl 36 _ (0,0) _ hr underlying36 rfl zaF ?_;exact kw
 ·have hN:¬ (Value.slice ia il ic).ownBlock=some w2.heap.size:=fun e=>by have:=hU.out _ e;have:=ht.size;omega
  have hh:=(Since.refl w2).alloc (.cells (Yd x).toArray 36);have HP:=zH (Zd3 w0 w kb x m sv p _) (And.intro (ha.1.keep hh) (fun (e:p=0)=>(ha.2 e).trans hh))
  clear hk ha;unfold mav;go_wp2
  exact⟨_,rfl,⟨_,rfl,HeapIs.new _ _ _,hN⟩,hh,HP.out⟩
 ·obtain rfl:p=0:=zaK
  have hb:=ha.2 rfl;obtain⟨b1,hG,hF,hO⟩:Vv (fun q=>(Value.slice ia il ic).ownBlock=some q) x (vs 6) w2:=hk.2.1
  simp only[hG];have hw:=hz.out.keep hb;have hv:=hid ha.1;have hi:=hid hb;clear hk ha hG;refine ZC (base:=m.base) Yd 8 J3 zaJ rfl _ _ 95 rfl 36 (.agg #[.int .i64 0,.int .i64 0,.int .i64 0,.int .i64 0,.int .i64 0,.int .i64 0,.int .i32 0,.slice none 0 0]) 80 underlying95 zaF rfl (.slice ia il ic) m.l x b1 1 _ rfl rfl hw hF (by unfold Yd;simp[Value.oneCell'];exact hV.out) (by rw[hn.out];unfold maxLen;omega) (by rw[hn.out];omega) (Nat.le_trans hA.out.low hb.size) ?_;intro v' w3 hd hp he;have HA:=zH (JU w0 m.base (.slice ia il ic) (m.l++[x]) v' w3) ⟨w2,hi.out,hp,he,hd⟩;have hS:=hid (hv.out.turn hp hT.out);have hR:=hid hp;clear hd hp he hw hF hO;go_wp2
  exact⟨_,rfl,HA.out,hR.out,hS.out,fun e=>absurd e zaJ⟩
end
theorem YN {op d e a b c imm:Int} (hi:In32 imm) (hd:0≤d∧d<10000) (he:0≤e∧e<10000) (ha:0≤a∧a<10000) (hb:0≤b∧b<10000) (hc:0≤c∧c<10000)
  (ho:op=1∨(op=3∧-32768≤imm∧imm≤32767)∨op=4∨(5≤op∧op≤17)∨(op=18∧-128≤imm∧imm≤127)∨(op=20∧0≤imm∧imm≤31)∨op=23∨((op=24∨op=26)∧0≤imm∧imm≤255)∨op=25∨op=27∨op=28∨op=29):MGood ⟨op,d,e,a,b,c,imm,[]⟩:=
 ⟨hi,Nat.zero_le _,fun _ h=>(by cases h),hd,he,ha,hb,hc,ho,.inr rfl⟩
section
variable {C : Nat→Prop} {kb:Nat} {sv:Value} {l : List Int} {m : K7} {w : World}
theorem WE (h:K7Ok C kb sv l m w) (hs:Sm7 70 m) (r:Int) (hr:0≤r∧r<10000) :
  Calls prog 142 #[.pointer (some ⟨kb,0,none⟩),.int .i64 r] w (K7Q C kb sv l w m 1 1 1 fun m' e=>∃ x:Int,e=.returned (.int .i64 x)∧0≤x∧x<10000):=by
 obtain⟨m0,hf⟩:∃ x,x=m:=⟨_,rfl⟩
 subst hf;have H0:=hid h;have MV0:=hid (Mv7.refl kb w m0);have SM0:=hid hs;clear h hs;go_enter func142,ntmps142
 go_wp2_with fail
 refine (W6 H0.out 4 zaJ zal).mono ?_;rintro e w1 ⟨m1,⟨x,rfl,⟨hi,hh⟩,he⟩,h1,mv1⟩;have H1:=hid h1;have MV1:=hid (MV0.out.trans mv1);have SM1:=hid (SM0.out.mv mv1);clear h1 mv1 he;by_cases hq:x=0
 ·skip
  subst hq;go_wp2_with fail
  have ha:0≤m1.next∧m1.next<9000:=by have:=SM1.out.2.1;omega
  refine (Xb H1.out ⟨ha.1,zaK⟩).mono ?_;rintro e w2 ⟨m2,⟨rfl,hd⟩,h2,mv2⟩;have H2:=hid h2;have MV2:=hid (MV1.out.trans mv2);have SM2:=hid (SM1.out.mv mv2);clear h2 mv2 hd;go_wp2_with fail
  refine (Yu H2.out (SM2.out.mono zaJ) ⟨⟨1,m1.next,0,r,0,0,0,[]⟩,.slice none 0 0⟩ ⟨.nil _ _,Stays.nil _ _⟩ (fun q hq=>by cases hq) (YN zas zaK zaK zaK zaK zaK zaK)).mono ?_;rintro e w3 ⟨m3,⟨rfl,hc,hb⟩,h3,mv3⟩;have H3:=hid h3;have MV3:=hid (MV2.out.trans mv3);have SM3:=hid (SM2.out.mv mv3);clear h3 mv3 hc hb;go_wp2_with fail
  go_ret
  refine⟨_,?_,H3.out,MV3.out.more⟩;exact⟨_,rfl,zaK,zaK⟩
 ·skip
  have hg:0<x:=zaK
  go_wp2_with fail
  go_ret
  refine⟨_,?_,H1.out,MV1.out.more⟩;exact⟨_,rfl,hr⟩
theorem XZ (h:K7Ok C kb sv l m w) (hs:Sm7 70 m) (d:Int) (hd:0≤d∧d<10000) (n:Int) (hn:In32 n) :
  Calls prog 136 #[.pointer (some ⟨kb,0,none⟩),.int .i64 d,.int .i32 n] w (K7Q C kb sv l w m 1 0 1 fun m' e=>e=.returned (.tuple #[])):=by
 obtain⟨m0,hf⟩:∃ x,x=m:=⟨_,rfl⟩
 subst hf;have H0:=hid h;have MV0:=hid (Mv7.refl kb w m0);have SM0:=hid hs;clear h hs;have ha:=hn;unfold In32 at ha;go_enter func136,ntmps136
 by_cases hg : -32768≤n
 ·skip
  by_cases hh:n<32768
  ·skip
   have h1 : -32768≤n:=hg;have h2:n<32768:=hh;go_wp2_with fail
   refine (W6 H0.out 2 zaJ zal).mono ?_;rintro e w1 ⟨m1,⟨x,rfl,⟨hj,hi⟩,hb⟩,h1,mv1⟩;have H1:=hid h1;have MV1:=hid (MV0.out.trans mv1);have SM1:=hid (SM0.out.mv mv1);clear h1 mv1 hb;by_cases hq:x=0
   ·skip
    subst hq;go_wp2_with fail
    refine (Yu H1.out (SM1.out.mono zaJ) ⟨⟨3,d,0,0,0,0,n,[]⟩,.slice none 0 0⟩ ⟨.nil _ _,Stays.nil _ _⟩ (fun q hq=>by cases hq) (YN hn hd zaK zaK zaK zaK zaK)).mono ?_;exact qj
   ·skip
    have hr:(x==0)=false:=by simpa using hq
    go_wp2_with fail
    refine (Yu H1.out (SM1.out.mono zaJ) ⟨⟨4,d,0,0,0,0,n,[]⟩,.slice none 0 0⟩ ⟨.nil _ _,Stays.nil _ _⟩ (fun q hq=>by cases hq) (YN hn hd zaK zaK zaK zaK zaK)).mono ?_;exact qj
  ·exact zy
 ·exact zy
end
end Go.Proofs.YtimpddecdodddaaGreat
