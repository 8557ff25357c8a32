import Derived.Test.YtimpddecdodddaaGreatSb19
namespace Go.Proofs.YtimpddecdodddaaGreat
open Go.RowKit Go.Lib
set_option linter.unusedVariables false
set_option maxHeartbeats 4000000
set_option maxRecDepth 100000
theorem zw {P:Prop} (h:P:=by
 skip
 go_wp2_with fail
 refine (Yj H0.out (SM0.out.mono (by decide)) ⟨⟨4,d,0,0,0,0,n,[]⟩,.slice none 0 0⟩ ⟨.nil _ _,Stays.nil _ _⟩ (fun q hq=>by cases hq) (YJ hn hd (by omega) (by omega) (by omega) (by omega) (by omega))).mono ?_;rintro e w1 ⟨m1,⟨rfl,hb,hc⟩,h1,mv1⟩;have H1:=hid h1;have MV1:=hid (MV0.out.trans mv1);have SM1:=hid (SM0.out.mv mv1);clear h1 mv1 hb hc;go_wp2_with fail
 go_end0
 refine⟨_,?_,H1.out,MV1.out.more⟩;exact rfl):P:=h
theorem z8 {P:Prop} (h:P:=by
 rintro e w2 ⟨m2,⟨rfl,he,ha⟩,h2,mv2⟩;have H2:=hid h2;have MV2:=hid (MV1.out.trans mv2);have SM2:=hid (SM1.out.mv mv2);clear h2 mv2 he ha;go_wp2_with fail
 go_end0
 refine⟨_,?_,H2.out,MV2.out.more⟩;exact rfl):P:=h
def K7At (w:World) (mb:Nat) (sv:Value) (at_:Nat) (rest:List Value):Prop:=HeapIs w mb (sv::.int .i64 at_::rest).toArray 172
theorem K7At.keep {w w':World} {mb:Nat} {sv:Value} {at_:Nat} {rest:List Value} (h:K7At w mb sv at_ rest) (s:Since w w'):K7At w' mb sv at_ rest:=HeapIs.keep h s
def ZeO (w:World) (mb:Nat) (sv:Value) (at_ k:Nat) (rest:List Value) (r:Value) (e:Ending) (w':World):Prop:=e=.returned r∧K7At w' mb sv (at_+k) rest∧Turn (fun q=>q=mb) w w'∧w'.heap.size=w.heap.size
theorem K7At.next {w : World} {mb:Nat} {sv:Value} {at_:Nat} {rest:List Value} (h:K7At w mb sv at_ rest):K7At (w.setCell ⟨mb,1,none⟩ (.int .i64 (at_+1))) mb sv (at_+1) rest:=by
 have h1:=HeapIs.set (show HeapIs w mb _ _ from h) 1 (.int .i64 (at_+1));simpa [K7At]using h1
theorem Zbv (sv:Value) (l:List Int) (w:World) (mb at_:Nat) (rest:List Value) (n:Int) (hm:K7At w mb sv at_ rest) (hs:Zi w sv l) (hi:at_≤1000000) (hn:1≤n∧n≤1048576):Calls Tryz.prog 140 #[.pointer (some ⟨mb,0,none⟩),.int .i64 n] w (ZeO w mb sv at_ 1 rest (.int .i64 (takeF l at_ n))):=by
 obtain⟨sa,sc,rfl⟩:=Zb hs;have he:=hs.len;unfold maxLen at he;obtain⟨x,hx⟩:∃ x,l.getD at_ 0=x:=⟨_,rfl⟩
 unfold takeF;rw[hx];have hh:=Int.tmod_lt_of_pos x (show 0<n by omega);have hg : -n<x.tmod n:=Int.lt_tmod_of_pos x kT;have HX:=hid hx;have HM:=hid hm;have HS:=hid hs;have c0:w.cell? ⟨mb,0,none⟩=some (.slice sa l.length sc):=hm.cell 0;have c1:w.cell? ⟨mb,1,none⟩=some (.int .i64 at_):=hm.cell 1;have hl:=hm.lt;have hf:=hm.frozen;clear hx hm hs;by_cases hb:at_<l.length
 ·obtain⟨_,hd⟩:=Zx HS.out;obtain⟨B,off,rfl,hB,ha⟩:=hd (by intro e;rw[e]at hb;simp at hb);have hc:l[at_]? = some x:=by rw[←HX.out,List.getD_eq_getElem?_getD,List.getElem?_eq_getElem hb];rfl
  have c2:=ha at_ x hc;clear ha hd hc;go_enter Tryz.func140,Tryz.ntmps140
  exact zG
 ·obtain rfl:x=0:=by rw[←HX.out,List.getD_eq_getElem?_getD,List.getElem?_eq_none kT];rfl
  rw[show ((0:Int).tmod n+n) % n=0 from by simp];go_enter Tryz.func140,Tryz.ntmps140
  exact zU
section
variable {C : Nat→Prop} {kb:Nat} {sv:Value} {l : List Int} {m : K7} {w : World}
theorem WU (h:K7Ok C kb sv l m w) (n:Int) (hn:1≤n∧n≤1048576) (hs:m.at_≤100000) :
  Calls Tryz.prog 140 #[.pointer (some ⟨kb,0,none⟩),.int .i64 n] w (K7Q C kb sv l w m 1 0 0 fun m' e=>∃ x:Int,e=.returned (.int .i64 x)∧(0≤x∧x<n)∧m'={ m with at_:=m.at_+1 }):=by
 refine (Zbv sv l w kb m.at_ [.int .i64 m.next,m.lv] n h.made h.src.1 kT hn).mono ?_;rintro e w' ⟨rfl,hm,t,hz⟩;exact⟨_,⟨_,rfl,Y6 _ _ kT,rfl⟩,h.box hm t,Mv7.box t (Nat.le_refl _) kT⟩
theorem Xa (h:K7Ok C kb sv l m w) (hs:0≤m.next∧m.next≤9000) :
  Calls Tryz.prog 141 #[.pointer (some ⟨kb,0,none⟩)] w (K7Q C kb sv l w m 0 1 0 fun m' e=>e=.returned (.int .i64 m.next)∧m'={ m with next:=m.next+1 }):=by
 have H:=hid h;have c2:w.cell? ⟨kb,2,none⟩=some (.int .i64 m.next):=h.made.cell 2;have hl:=h.made.lt;have hc:=h.made.frozen;obtain⟨nx,ha⟩:∃ x,m.next=x:=⟨_,rfl⟩
 rw[ha]at c2 hs;have hb:=hid ha;have HM:=zH (HeapIs (w.setCell ⟨kb,2,none⟩ (.int .i64 (nx+1))) kb #[sv,.int .i64 m.at_,.int .i64 (nx+1),m.lv] 172) (h.made.set 2 (.int .i64 (nx+1)));clear h ha;go_enter Tryz.func141,Tryz.ntmps141
 go_wp2
 go_ret
 have t:Turn (fun q=>q=kb) w (w.setCell ⟨kb,2,none⟩ (.int .i64 (nx+1))):=(Turn.refl (fun q=>q=kb) w).setCell (p:=⟨kb,2,none⟩) rfl _;exact⟨{ m with next:=nx+1 },⟨by rw[hb.out];rfl,by rw[hb.out]⟩,H.out.box HM.out t,Mv7.box t (Nat.le_refl _) (by rw[hb.out];omega)⟩
end
def mav (x:MaV):Value:=.agg #[.int .i64 x.m.op,.int .i64 x.m.d,.int .i64 x.m.e,.int .i64 x.m.a,.int .i64 x.m.b,.int .i64 x.m.c,.int .i32 x.m.imm,x.av]
def Vn (S:Nat→Prop) (x:MaV) (v:Value) (w:World):Prop:=∃ b,v=.slice (some ⟨b,0,none⟩) 1 1∧HeapIs w b (Z9 x).toArray 36∧¬ S b
theorem Vn.stable (S:Nat→Prop) (x:MaV):ZM (Vn S x):=fun v w w' ⟨b,h1,h2,h3⟩ s=>⟨b,h1,h2.keep s,h3⟩
theorem Vn.stableT (S:Nat→Prop) (x:MaV):Yg S (Vn S x):=fun v w w' ⟨b,h1,h2,h3⟩ t=>⟨b,h1,h2.turn t h3,h3⟩
def JG (w0:World) (base:Nat) (v0:Value) (xs:List MaV) (v:Value) (w:World):Prop:=∃ wa,Since w0 wa∧Turn (fun q=>v0.ownBlock=some q) wa w∧Z6 wa v0 v∧OwnRow Z9 8 36 base w v xs
theorem JG.stable (w0:World) (base:Nat) (v0:Value) (xs:List MaV):ZM (JG w0 base v0 xs):=fun v w w' ⟨wa,h1,h2,h3,h4⟩ s=>⟨wa,h1,h2.trans (Turn.since s),h3,h4.keep s⟩
structure VU (w:World) (kb:Nat) (x:MaV) (m:K7) (sv:Value) (w1:World):Prop where
 made:HeapIs w1 kb #[sv,.int .i64 m.at_,.int .i64 m.next,m.lv] 172
 box:HeapIs w1 w.heap.size (Z9 x).toArray 36
def Zdc (w0 w:World) (kb:Nat) (x:MaV) (m:K7) (sv:Value) (p:Nat) (w1:World):Prop:=VU w kb x m sv w1∧(p=0→Since w0 w1)
theorem VU.keep {w w1 w2:World} {kb:Nat} {x : MaV} {m : K7} {sv:Value} (h:VU w kb x m sv w1) (s:Since w1 w2):VU w kb x m sv w2:=⟨h.made.keep s,h.box.keep s⟩
theorem VU.turn {S : Nat→Prop} {w w1 w2:World} {kb:Nat} {x : MaV} {m : K7} {sv:Value} (h:VU w kb x m sv w1) (t:Turn S w1 w2) (hn:¬ S kb∧¬ S w.heap.size):VU w kb x m sv w2:=⟨h.made.turn t hn.1,h.box.turn t hn.2⟩
section
variable {C : Nat→Prop} {kb:Nat} {sv:Value} {l : List Int} {m : K7} {w : World}
theorem Yj (h:K7Ok C kb sv l m w) (hs:Sm7 80 m) (x:MaV) (hx:Zi w x.av x.m.args∧Stays (ZQ C kb m) w x.av) (hB:∀ q,x.av.ownBlock=some q→m.base≤q) (hg:MGood x.m) :
  Calls Tryz.prog 138 #[.pointer (some ⟨kb,0,none⟩),mav x] w (K7Q C kb sv l w m 0 0 1 fun m' e=>e=.returned (.tuple #[])∧m'.next=m.next∧m'.at_=m.at_):=by
 obtain⟨hM,hh,hL⟩:=hs;obtain⟨ia,ic,hf⟩:=Zf (show w.ownsRow _ _ _ _ _ _ from h.row);obtain⟨il,hj⟩:∃ n,m.l.length=n:=⟨_,rfl⟩
 rw[hj]at hf hL;obtain⟨w0,ho⟩:∃ w0,w0=w.alloc (.cells (Z9 x).toArray 36):=⟨_,rfl⟩
 have hb:Since w w0:=by rw[ho];exact (Since.refl w).alloc _
 have hr:HeapIs w0 w.heap.size (Z9 x).toArray 36:=by rw[ho];exact HeapIs.new _ _ _
 have hA:=hid (h.keep hb);have hz:=zH (OwnRow Z9 8 36 m.base w0 (.slice ia il ic) m.l) (by rw[←hf];exact h.row.keep hb);have hJ:=zH (Zdc w0 w kb x m sv 0 w0.drew) ⟨⟨h.made.keep (hb.trans (Since.refl _).drew),hr.keep (Since.refl _).drew⟩,fun _=>(Since.refl _).drew⟩
 have hU:=zH (∀ q,(Value.slice ia il ic).ownBlock=some q→q<w0.heap.size) (fun q hq=>ZN hz.out hq)
 have hT:=hid (show ¬ (Value.slice ia il ic).ownBlock=some kb∧¬ (Value.slice ia il ic).ownBlock=some w.heap.size from by
  rw[←hf];exact⟨h.kb_row,fun e=>by have:=ZN h.row e;omega⟩)
 have hI:=zH ((#[sv,.int .i64 m.at_,.int .i64 m.next,m.lv]:Array Value)[3]? = some (.slice ia il ic)) (by rw[←hf];rfl);have hV:=zH (x.av.oneCell'=true) (by obtain⟨a,c,e⟩:=Zb hx.1;rw[e];rfl);have HX:=hid hx;have HG:=hid hg;have hP:=hid hB;have hH:=hid hf;have hn:=hid hj;have hi:=hid hb;clear h hx hg hB hf hj hb hr hM hh;go_enter Tryz.func138,Tryz.ntmps138
 unfold mav;go_wp2_with fail
 rw[show (.cells #[.int .i64 x.m.op,.int .i64 x.m.d,.int .i64 x.m.e,.int .i64 x.m.a,.int .i64 x.m.b,.int .i64 x.m.c,.int .i32 x.m.imm,x.av] 36:Obj)=.cells (Z9 x).toArray 36 from rfl,←ho];clear ho;refine Xv 8 7 [7] [0,0,0,0,0,0,0,0] [1,0,0,0,0,0,0,0] [0,0,0,0,0,0,0,1] (fun q=>(Value.slice ia il ic).ownBlock=some q) (Zdc w0 w kb x m sv) rfl kK kK kK kS kK
  [Is (.pointer (some ⟨kb,0,none⟩)),Is (.pointer (some ⟨kb,0,none⟩)),Is (.pointer (some ⟨kb,0,none⟩)),Is (.pointer (some ⟨kb,3,none⟩)),Is (.slice ia il ic),Is (mav x),Vn (fun q=>(Value.slice ia il ic).ownBlock=some q) x,JG w0 m.base (.slice ia il ic) (m.l++[x])]
  (by repeat (first | exact trivial | refine⟨fun h=>absurd rfl h,?_⟩ | refine⟨fun _=>Is.stableT _ _,?_⟩ | refine⟨fun _=>Any.stableT _,?_⟩ | refine⟨fun _=>Vn.stableT _ _,?_⟩)) (by repeat (first | exact trivial | refine⟨Is.stable _,?_⟩ | refine⟨Any.stable,?_⟩ | refine⟨Vn.stable _ _,?_⟩ | refine⟨JG.stable _ _ _ _,?_⟩)) hJ.out ⟨?_,?_,?_,?_,?_,?_,?_,?_,trivial⟩ ?_
 rotate_right
 ·intro vs w2 ht ha hk;simp only[List.take,List.drop,putAll,Act.put,Zc,Ze,Is,List.setIfInBounds_toArray,List.set_cons_zero,List.set_cons_succ,Nat.reduceAdd]at hk ⊢;try simp only[hk]
  obtain⟨wa,hD,hC,he,hd⟩:JG w0 m.base (.slice ia il ic) (m.l++[x]) (vs 7) w2:=by exact hk.2.2.2.2.2.2.2.1
  generalize vs 7=nv at *;have hZ:w2.cell? ⟨kb,3,none⟩=some (.slice ia il ic):=(ha.1.made.cell 3).trans hI.out;have hY:=ha.1.made.frozen;have hl:=ha.1.made.lt;have hv:=hid ha.1;have hu:=hid hD;have hQ:=hid hC;have hK:=hid he;have hm:=hid hd;clear hk ha ht hD hC he hd;obtain⟨na,nc,hE⟩:=Zf (show w2.ownsRow _ _ _ _ _ _ from hm.out);rw[show (m.l++[x]).length=il+1 from by rw[List.length_append,hn.out];rfl]at hE
  subst hE;go_wp2_with fail
  go_end0
  have t2:Turn (fun q=>q=kb) w2 (w2.setCell ⟨kb,3,none⟩ (.slice na (il+1) nc)):=(Turn.refl (fun q=>q=kb) w2).setCell (p:=⟨kb,3,none⟩) rfl _;have hy:=(hA.out.keep hu.out).put (x:=x) hm.out (by rw[hH.out];exact hQ.out) (by rw[hH.out];exact hK.out) t2 (hv.out.made.set 3 _) ⟨HX.out.1.keep (hi.out.trans hu.out),HX.out.2.keep (hi.out.trans hu.out)⟩ hP.out HG.out (Zm hm.out hv.out.made kS);exact⟨{ m with l:=m.l++[x],lv:=.slice na (il+1) nc },⟨rfl,rfl,rfl⟩,hy.1,Mv7.since (hi.out.trans hu.out) hy.2⟩
 all_goals
  intro p vs w2 hW hX ht ha hk;simp only[List.take,putAll,Act.put,Zk,Ze,Is,List.setIfInBounds_toArray,List.set_cons_zero,List.set_cons_succ,Nat.reduceAdd]at hk ⊢;try simp only[hk]
 iterate 4
  ·exact jA
 ·have hc:w2.cell? ⟨kb,3,none⟩=some (.slice ia il ic):=(ha.1.made.cell 3).trans hI.out;have hl:=ha.1.made.lt;exact jA
 ·have hr:=ha.1.box;clear hk;refine wpList_load_row rfl _ _ rfl w.heap.size rfl 36 _ (0,0) _ hr Tryz.underlying36 rfl kO ?_;exact jA
 ·have hN:¬ (Value.slice ia il ic).ownBlock=some w2.heap.size:=fun e=>by have:=hU.out _ e;have:=ht.size;omega
  have hh:=(Since.refl w2).alloc (.cells (Z9 x).toArray 36);have HP:=zH (Zdc w0 w kb x m sv p _) (And.intro (ha.1.keep hh) (fun (e:p=0)=>(ha.2 e).trans hh))
  clear hk ha;unfold mav;go_wp2
  exact⟨_,rfl,⟨_,rfl,HeapIs.new _ _ _,hN⟩,hh,HP.out⟩
 ·obtain rfl:p=0:=kT
  have hb:=ha.2 rfl;obtain⟨b1,hG,hF,hO⟩:Vn (fun q=>(Value.slice ia il ic).ownBlock=some q) x (vs 6) w2:=hk.2.1
  simp only[hG];have hw:=hz.out.keep hb;have hv:=hid ha.1;have hi:=hid hb;clear hk ha hG;refine ZL (base:=m.base) Z9 8 JP kS rfl _ _ 95 rfl 36 (.agg #[.int .i64 0,.int .i64 0,.int .i64 0,.int .i64 0,.int .i64 0,.int .i64 0,.int .i32 0,.slice none 0 0]) 80 Tryz.underlying95 kO rfl (.slice ia il ic) m.l x b1 1 _ rfl rfl hw hF (by unfold Z9;simp[Value.oneCell'];exact hV.out) (by rw[hn.out];unfold maxLen;omega) (by rw[hn.out];omega) (Nat.le_trans hA.out.low hb.size) ?_;intro v' w3 hd hp he;have HA:=zH (JG w0 m.base (.slice ia il ic) (m.l++[x]) v' w3) ⟨w2,hi.out,hp,he,hd⟩;have hS:=hid (hv.out.turn hp hT.out);have hR:=hid hp;clear hd hp he hw hF hO;go_wp2
  exact⟨_,rfl,HA.out,hR.out,hS.out,fun e=>absurd e kS⟩
end
theorem YJ {op d e a b c imm:Int} (hi:In32 imm) (hd:0≤d∧d<10000) (he:0≤e∧e<10000) (ha:0≤a∧a<10000) (hb:0≤b∧b<10000) (hc:0≤c∧c<10000)
  (ho:op=1∨(op=3∧-32768≤imm∧imm≤32767)∨op=4∨(5≤op∧op≤17)∨(op=18∧-128≤imm∧imm≤127)∨(op=20∧0≤imm∧imm≤31)∨op=23∨((op=24∨op=26)∧0≤imm∧imm≤255)∨op=25∨op=27∨op=28∨op=29):MGood ⟨op,d,e,a,b,c,imm,[]⟩:=
 ⟨hi,Nat.zero_le _,fun _ h=>(by cases h),hd,he,ha,hb,hc,ho,.inr rfl⟩
section
variable {C : Nat→Prop} {kb:Nat} {sv:Value} {l : List Int} {m : K7} {w : World}
theorem Ww (h:K7Ok C kb sv l m w) (hs:Sm7 70 m) (r:Int) (hr:0≤r∧r<10000) :
  Calls Tryz.prog 142 #[.pointer (some ⟨kb,0,none⟩),.int .i64 r] w (K7Q C kb sv l w m 1 1 1 fun m' e=>∃ x:Int,e=.returned (.int .i64 x)∧0≤x∧x<10000):=by
 obtain⟨m0,hf⟩:∃ x,x=m:=⟨_,rfl⟩
 subst hf;have H0:=hid h;have MV0:=hid (Mv7.refl kb w m0);have SM0:=hid hs;clear h hs;go_enter Tryz.func142,Tryz.ntmps142
 go_wp2_with fail
 refine (WU H0.out 4 kS kr).mono ?_;rintro e w1 ⟨m1,⟨x,rfl,⟨hi,hh⟩,he⟩,h1,mv1⟩;have H1:=hid h1;have MV1:=hid (MV0.out.trans mv1);have SM1:=hid (SM0.out.mv mv1);clear h1 mv1 he;by_cases hq:x=0
 ·skip
  subst hq;go_wp2_with fail
  have ha:0≤m1.next∧m1.next<9000:=by have:=SM1.out.2.1;omega
  refine (Xa H1.out ⟨ha.1,kT⟩).mono ?_;rintro e w2 ⟨m2,⟨rfl,hd⟩,h2,mv2⟩;have H2:=hid h2;have MV2:=hid (MV1.out.trans mv2);have SM2:=hid (SM1.out.mv mv2);clear h2 mv2 hd;go_wp2_with fail
  refine (Yj H2.out (SM2.out.mono kS) ⟨⟨1,m1.next,0,r,0,0,0,[]⟩,.slice none 0 0⟩ ⟨.nil _ _,Stays.nil _ _⟩ (fun q hq=>by cases hq) (YJ kA kT kT kT kT kT kT)).mono ?_;rintro e w3 ⟨m3,⟨rfl,hc,hb⟩,h3,mv3⟩;have H3:=hid h3;have MV3:=hid (MV2.out.trans mv3);have SM3:=hid (SM2.out.mv mv3);clear h3 mv3 hc hb;go_wp2_with fail
  go_ret
  refine⟨_,?_,H3.out,MV3.out.more⟩;exact⟨_,rfl,kT,kT⟩
 ·skip
  have hg:0<x:=kT
  go_wp2_with fail
  go_ret
  refine⟨_,?_,H1.out,MV1.out.more⟩;exact⟨_,rfl,hr⟩
theorem XP (h:K7Ok C kb sv l m w) (hs:Sm7 70 m) (d:Int) (hd:0≤d∧d<10000) (n:Int) (hn:In32 n) :
  Calls Tryz.prog 136 #[.pointer (some ⟨kb,0,none⟩),.int .i64 d,.int .i32 n] w (K7Q C kb sv l w m 1 0 1 fun m' e=>e=.returned (.tuple #[])):=by
 obtain⟨m0,hf⟩:∃ x,x=m:=⟨_,rfl⟩
 subst hf;have H0:=hid h;have MV0:=hid (Mv7.refl kb w m0);have SM0:=hid hs;clear h hs;have ha:=hn;unfold In32 at ha;go_enter Tryz.func136,Tryz.ntmps136
 by_cases hg : -32768≤n
 ·skip
  by_cases hh:n<32768
  ·skip
   have h1 : -32768≤n:=hg;have h2:n<32768:=hh;go_wp2_with fail
   refine (WU H0.out 2 kS kr).mono ?_;rintro e w1 ⟨m1,⟨x,rfl,⟨hj,hi⟩,hb⟩,h1,mv1⟩;have H1:=hid h1;have MV1:=hid (MV0.out.trans mv1);have SM1:=hid (SM0.out.mv mv1);clear h1 mv1 hb;by_cases hq:x=0
   ·skip
    subst hq;go_wp2_with fail
    refine (Yj H1.out (SM1.out.mono kS) ⟨⟨3,d,0,0,0,0,n,[]⟩,.slice none 0 0⟩ ⟨.nil _ _,Stays.nil _ _⟩ (fun q hq=>by cases hq) (YJ hn hd kT kT kT kT kT)).mono ?_;exact z8
   ·skip
    have hr:(x==0)=false:=by simpa using hq
    go_wp2_with fail
    refine (Yj H1.out (SM1.out.mono kS) ⟨⟨4,d,0,0,0,0,n,[]⟩,.slice none 0 0⟩ ⟨.nil _ _,Stays.nil _ _⟩ (fun q hq=>by cases hq) (YJ hn hd kT kT kT kT kT)).mono ?_;exact z8
  ·exact zw
 ·exact zw
end
end Go.Proofs.YtimpddecdodddaaGreat
