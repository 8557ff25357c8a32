import Derived.Test.YtmhojfpidedjeaaGreatDoorTp40
import Derived.Test.YtmhojfpidedjeaaGreatDoorTp44
namespace Go.Proofs.YtmhojfpidedjeaaGreatDoor
open Go.RowKit Go.Lib
set_option linter.unusedVariables false
set_option maxHeartbeats 4000000
set_option maxRecDepth 1000000
theorem Zc5 (va vb:Value) (l:List ZH) (w:World) (ha:Ws w va l) (hb:Ws w vb l):Calls Tryz.prog 35 #[va,vb] w fun e w'=>e=.returned (.bool true)∧Since w w':=by
 obtain⟨a1,c1,e1,hl⟩:=RowIn.shape ha;obtain⟨a2,c2,e2,hq⟩:=RowIn.shape hb;obtain rfl:va=.slice a1 l.length c1:=e1;obtain rfl:vb=.slice a2 l.length c2:=e2;unfold maxLen at hl;clear hq;have HA:=hid ha;have HB:=hid hb;obtain⟨n,hn⟩:∃ n,l.length=n:=⟨_,rfl⟩
 rw[hn]at hl;clear ha hb;simp only[hn];go_enter Tryz.func35,Tryz.ntmps35
 go_wp2_with fail
 go_loopw [5] (fun i wr=>∃ k:Nat,i=.int .i64 k∧k≤n∧Since w wr) (fun i _=>n-(intOf i).toNat)
 case atStart=>exact⟨0,rfl,Nat.zero_le _,.refl _⟩
 case round =>
  obtain⟨k,rfl,hk,hd⟩:=hrel;have hm:=hid hd;by_cases hj:k<n
  ·obtain⟨rb,off,x,rfl,hf,hx,hc,hp⟩:=RowIn.at (hn ▸ HA.out) (hn ▸ hj);obtain⟨rb2,off2,y,rfl,he,hy,hg,ho⟩:=RowIn.at (hn ▸ HB.out) (hn ▸ hj);obtain rfl:x=y:=by rw[hx]at hy;exact Option.some.inj hy
   obtain⟨pat,cost⟩:=x;have C0:=zH (wr.cell? ⟨rb,off+k*2,none⟩=some (.int .i64 pat)) ((hd.cell (p:=⟨rb,off+k*2+0,none⟩) hf).trans (hc 0 (by decide)));have C1:=zH (wr.cell? ⟨rb,off+k*2+1,none⟩=some (.int .i64 cost)) ((hd.cell (p:=⟨rb,off+k*2+1,none⟩) hf).trans (hc 1 (by decide)));have D0:=zH (wr.cell? ⟨rb2,off2+k*2,none⟩=some (.int .i64 pat)) ((hd.cell (p:=⟨rb2,off2+k*2+0,none⟩) he).trans (hg 0 (by decide)));have D1:=zH (wr.cell? ⟨rb2,off2+k*2+1,none⟩=some (.int .i64 cost)) ((hd.cell (p:=⟨rb2,off2+k*2+1,none⟩) he).trans (hg 1 (by decide)));have hi:=hid (Nat.lt_of_lt_of_le hf hd.size);have hh:=hid (Nat.lt_of_lt_of_le he hd.size);clear hd hc hg hx hy hp ho hf he;go_wp2_with fail
   refine ZG rfl (by decide +kernel) (by decide +kernel)
    [Is (.slice (some ⟨rb,off,none⟩) n c1),Is (.int .i64 k),Is (.pointer (some ⟨rb,off+k*2,none⟩)),Is (.agg #[.int .i64 pat,.int .i64 cost]),Is (.slice (some ⟨rb2,off2,none⟩) n c2),Is (.int .i64 k),Is (.pointer (some ⟨rb2,off2+k*2,none⟩)),Is (.agg #[.int .i64 pat,.int .i64 cost]),Is (.bool false)]
    (by repeat (first | exact trivial | refine⟨Is.stable _,?_⟩ | refine⟨ZV.stable _ _,?_⟩ | refine⟨IsRows.stable _ _,?_⟩)) ⟨?_,?_,?_,?_,?_,?_,?_,?_,?_,trivial⟩ ?_
   all_goals
    intro vs w8 hs hk;simp only[putAll,Act.put,Zh,Zc,Zd,Is,List.setIfInBounds_toArray,List.set_cons_zero,List.set_cons_succ,Nat.reduceAdd,List.length_cons,List.length_nil]at hk ⊢;try simp only[hk]
   iterate 3
    ·go_wp2
     exact⟨_,rfl,rfl,.refl _⟩
   ·have z0:w8.cell? ⟨rb,off+k*2,none⟩=some (.int .i64 pat):=(hs.cell (p:=⟨rb,off+k*2,none⟩) hi.out).trans C0.out;have z1:w8.cell? ⟨rb,off+k*2+1,none⟩=some (.int .i64 cost):=(hs.cell (p:=⟨rb,off+k*2+1,none⟩) hi.out).trans C1.out;have z2:=Nat.lt_of_lt_of_le hi.out hs.size;clear hs;go_wp2
    exact⟨_,rfl,rfl,.refl _⟩
   iterate 3
    ·go_wp2
     exact⟨_,rfl,rfl,.refl _⟩
   ·have z0:w8.cell? ⟨rb2,off2+k*2,none⟩=some (.int .i64 pat):=(hs.cell (p:=⟨rb2,off2+k*2,none⟩) hh.out).trans D0.out;have z1:w8.cell? ⟨rb2,off2+k*2+1,none⟩=some (.int .i64 cost):=(hs.cell (p:=⟨rb2,off2+k*2+1,none⟩) hh.out).trans D1.out;have z2:=Nat.lt_of_lt_of_le hh.out hs.size;clear hs;go_wp2
    exact⟨_,rfl,rfl,.refl _⟩
   ·go_wp2
    exact⟨_,rfl,rfl,.refl _⟩
   ·have hr:=hid (hm.out.trans hs);clear hs hk;go_wp2
    go_roundw
    case rel=>exact⟨k+1,by go_num,by omega,hr.out⟩
    case measure=>simp[intOf];omega
  ·obtain rfl:k=n:=by omega
   clear hd;go_wp2
   go_ret
   exact⟨rfl,hm.out⟩
theorem Zcj (f g:FnV) (s:ByteArray) (l1 e1 l2 e2:Int) (w:World) (hs:s.size≤300000) (hf:FnIn w f) (hg:FnIn w g) (h1:(⟨f.d,l1,e1⟩:Xm)=Yu s.data.toList) (h2:(⟨g.d,l2,e2⟩:Xm)=Yu s.data.toList) :
  Calls Tryz.prog 19 #[fv f,fv g] w fun e w'=>e=.returned (.bool true)∧Since w w':=by
 have h3:JK (Yu s.data.toList).f:=ZcF _ (by show s.data.toList.length≤300000;rw[Array.length_toList];exact hs);have d1:f.d=(Yu s.data.toList).f:=by rw[←h1]
 have d2:g.d=(Yu s.data.toList).f:=by rw[←h2]
 have k1:JK f.d:=by rw[d1];exact h3
 exact Zbo f g w hf hg (d1.trans d2.symm) (QF f k1) (QF g (by rw[d2];exact h3)) (Qv _ k1)
theorem Vt (s:ByteArray) (w:World) (hs:s.size≤300000) (hL:Ys w):Calls Tryz.prog 15 #[.string s] w fun e w'=>e=.returned (.bool true)∧Since w w':=by
 have HL:=hid hL;clear hL;go_enter Tryz.func15,Tryz.ntmps15
 go_wp2_with fail
 refine (ZaN s w hs HL.out).mono ?_;rintro e w1 ⟨f,line,er,rfl,hf,hd,hF⟩;have HF:=hid hf;have HD:=hid hd;have hR:=hid hF;clear hf hd hF;obtain⟨p1,b1,v1⟩:=f;obtain⟨a1,c1,e1,_⟩:=RowIn.shape HF.out;obtain⟨n1,hJ⟩:∃ n,b1.length=n:=⟨_,rfl⟩
 replace e1:v1=.slice a1 n1 c1:=by rw[←hJ];exact e1
 subst e1;unfold fv;dsimp only;go_wp2_with fail
 obtain⟨q1,ht⟩:∃ q,w1.heap.size=q:=⟨_,rfl⟩
 have hp:Since w1 (w1.alloc (.cells #[.int .i64 p1,.slice a1 n1 c1] 24)):=(Since.refl w1).alloc _;have he:=HeapIs.new w1 #[.int .i64 p1,.slice a1 n1 c1] 24;obtain⟨w2,hk⟩:∃ w2,w1.alloc (.cells #[.int .i64 p1,.slice a1 n1 c1] 24)=w2:=⟨_,rfl⟩
 rw[hk]at hp he;rw[ht]at he;try rw[hk]
 try rw[ht]
 have h7:=hid he;have hx:=hid hp;clear hp he hk ht;refine (Zbs s w2 hs).mono ?_;rintro e w3 ⟨f2,line2,er2,rfl,hK,hO,hE⟩;have hS:=hid hK;have hA:=hid hO;have hQ:=hid hE;clear hK hO hE;obtain⟨p2,b2,v2⟩:=f2;obtain⟨a2,c2,e2,_⟩:=RowIn.shape hS.out;obtain⟨n2,hI⟩:∃ n,b2.length=n:=⟨_,rfl⟩
 replace e2:v2=.slice a2 n2 c2:=by rw[←hI];exact e2
 subst e2;obtain rfl:line2=line:=by have h1:=congrArg Xm.line HD.out;have h2:=congrArg Xm.line hA.out;exact h2.trans h1.symm
 obtain rfl:er2=er:=by have h1:=congrArg Xm.e HD.out;have h2:=congrArg Xm.e hA.out;exact h2.trans h1.symm
 unfold ZcZ;dsimp only;go_wp2_with fail
 obtain⟨q2,hr⟩:∃ q,w3.heap.size=q:=⟨_,rfl⟩
 have ho:Since w3 (w3.alloc (.cells #[.int .i64 p2,.slice a2 n2 c2,.int .i64 line2,.int .i64 er2] 81)):=(Since.refl w3).alloc _;have hc:=HeapIs.new w3 #[.int .i64 p2,.slice a2 n2 c2,.int .i64 line2,.int .i64 er2] 81;obtain⟨w4,hj⟩:∃ w4,w3.alloc (.cells #[.int .i64 p2,.slice a2 n2 c2,.int .i64 line2,.int .i64 er2] 81)=w4:=⟨_,rfl⟩
 rw[hj]at ho hc;rw[hr]at hc;try rw[hj]
 try rw[hr]
 have h6:=hid hc;have hv:=hid ho;clear ho hc hj hr;refine (Zdf s w4 hs (HL.out.keep (((hR.out.trans hx.out).trans hQ.out).trans hv.out))).mono ?_;rintro e w5 ⟨v3,l3,line3,er3,rfl,hm,hN,hD⟩;have hY:=hid hm;have hz:=hid hN;have h3:=hid hD;obtain⟨a3,c3,e3,_⟩:=RowIn.shape hm;obtain⟨n3,hH⟩:∃ n,l3.length=n:=⟨_,rfl⟩
 replace e3:v3=.slice a3 n3 c3:=by rw[←hH];exact e3
 subst e3;clear hm hN hD;go_wp2_with fail
 refine (Zcm s w5 hs).mono ?_;rintro e w6 ⟨v4,l4,line4,er4,rfl,hl,hM,hC⟩;have hX:=hid hl;have hy:=hid hM;have hP:=hid hC;obtain⟨a4,c4,e4,_⟩:=RowIn.shape hl;obtain⟨n4,hG⟩:∃ n,l4.length=n:=⟨_,rfl⟩
 replace e4:v4=.slice a4 n4 c4:=by rw[←hG];exact e4
 subst e4;clear hl hM hC;obtain rfl:line4=line3:=by have h1:=congrArg X5.line hz.out;have h2:=congrArg X5.line hy.out;exact h2.trans h1.symm
 obtain rfl:er4=er3:=by have h1:=congrArg X5.e hz.out;have h2:=congrArg X5.e hy.out;exact h2.trans h1.symm
 obtain rfl:l4=l3:=by have h1:=congrArg X5.l hz.out;have h2:=congrArg X5.l hy.out;exact h2.trans h1.symm
 clear hJ hI hH hG;unfold ZeB;go_upto_region 5 with fail
 obtain⟨q3,hq⟩:∃ q,w6.heap.size=q:=⟨_,rfl⟩
 have hn:Since w6 (w6.alloc (.cells #[.slice a4 n4 c4,.int .i64 line4,.int .i64 er4] 86)):=(Since.refl w6).alloc _;have hb:=HeapIs.new w6 #[.slice a4 n4 c4,.int .i64 line4,.int .i64 er4] 86;obtain⟨w7,hi⟩:∃ w7,w6.alloc (.cells #[.slice a4 n4 c4,.int .i64 line4,.int .i64 er4] 86)=w7:=⟨_,rfl⟩
 rw[hi]at hn hb;rw[hq]at hb;try rw[hi]
 try rw[hq]
 have hu:=hid hn;have hT:=hid hb;clear hn hb hi hq;have hg:Since w4 w7:=(h3.out.trans hP.out).trans hu.out;have hh:Since w2 w7:=(hQ.out.trans hv.out).trans hg;have g1:=h7.out.keep hh;have g2:=h6.out.keep hg;have g3:=hT.out;have z10:=g1.cell 0;have z11:=g1.cell 1;have z1l:=g1.lt;have z20:=g2.cell 0;have z21:=g2.cell 1;have z22:=g2.cell 2;have z23:=g2.cell 3;have z2l:=g2.lt;have z30:=g3.cell 0;have z31:=g3.cell 1;have z32:=g3.cell 2;have z3l:=g3.lt;have h5:=hid (Zcj ⟨p1,b1,.slice a1 n1 c1⟩ ⟨p2,b2,.slice a2 n2 c2⟩ s line2 er2 line2 er2 w7 hs (HF.out.keep (hx.out.trans hh)) (hS.out.keep (hv.out.trans hg)) HD.out hA.out);have hV:=hid (hY.out.keep (fun w w' x h1 _=>h1) (hP.out.trans hu.out));have hU:=hid (hX.out.keep (fun w w' x h1 _=>h1) hu.out);have hW:=hid (((hR.out.trans hx.out)).trans hh);clear g1 g2 g3 hg hh;go_wp2_with fail
 refine h5.out.mono ?_;rintro e w8 ⟨rfl,ha⟩;have g3:=hT.out.keep ha;have y30:=g3.cell 0;have y31:=g3.cell 1;have y32:=g3.cell 2;have y3l:=g3.lt;have h0:=hid ha;have h4:=hid (Zc5 _ _ _ w8 (hV.out.keep (fun w w' x h1 _=>h1) ha) (hU.out.keep (fun w w' x h1 _=>h1) ha));clear ha g3 z10 z11 z1l z20 z21 z22 z23 z2l z30 z31 z32 z3l;go_wp2_with fail
 refine h4.out.mono ?_;rintro e w9 ⟨rfl,hB⟩;have hZ:=hid (hW.out.trans (h0.out.trans hB));clear hB;go_wp2
 go_ret
 exact⟨rfl,hZ.out⟩
def shownD:DFn:=⟨2,[⟨[],[⟨2,2,0,[0,1],0⟩],⟨4,[2],[],0⟩⟩]⟩
def Qk:Bs:=[102,117,110,99,32,50,10,98,108,111,99,107,32,48,10,97,100,100,32,50,32,48,32,49,10,114,101,116,32,50,10]
def shownB:ByteArray:=⟨#[102,117,110,99,32,50,10,98,108,111,99,107,32,48,10,97,100,100,32,50,32,48,32,49,10,114,101,116,32,50,10]⟩
theorem Qj:XP shownD=Qk:=by decide +kernel
theorem KC:Yu Qk=⟨shownD,0,0⟩:=by kernel_rfl
theorem VV:JK shownD:=by
 have h:=ZcF Qk (by decide);rw[KC]at h;exact h
theorem ZaV {w : World} {b n:Nat} {cs:Array Value} {t : TypeId} (l:List Int) (h:HeapIs w b cs t) (hn:l.length=n) (hm:n≤maxLen) (hc:∀ (j:Nat) (x:Int),l[j]? = some x→cs[j]? = some (.int .i64 x)):Zm w (.slice (some ⟨b,0,none⟩) n n) l:=by
 subst hn;exact .inr ⟨b,0,l.length,rfl,Nat.le_refl _,hm,h.lt,fun j x hj=>by rw[Nat.zero_add,h.cell];exact hc j x hj⟩
theorem Zbt {α:Type} (f:α→List Value) (sz:Nat) (p:World→α→Prop) {w : World} {b : Nat} {cs:Array Value} {t : TypeId} (x:α) (h:HeapIs w b cs t) (hc:∀ k,k<sz→cs[k]? = (f x)[k]?) (hp:p w x):RowIn f sz p w (.slice (some ⟨b,0,none⟩) 1 1) [x]:=
 .inr ⟨b,0,1,rfl,Nat.le_refl _,by decide,h.lt,fun j y hj=>by
  rcases j with _|j
  ·obtain rfl:x=y:=Option.some.inj hj
   refine⟨fun t ht=>?_,hp⟩
   rw[Nat.zero_mul,Nat.zero_add]
   try rw[Nat.zero_add]
   rw[h.cell]
   exact hc t ht
  ·cases hj⟩
def shownF (q:Nat):FnV:=⟨2,[⟨[],.slice none 0 0,[⟨2,2,0,[0,1],.slice (some ⟨q,0,none⟩) 2 2,0⟩],.slice (some ⟨q+1,0,none⟩) 1 1,⟨4,[2],.slice (some ⟨q+1+1,0,none⟩) 1 1,[],.slice none 0 0,0⟩⟩],.slice (some ⟨q+1+1+1,0,none⟩) 1 1⟩
theorem VF (q:Nat):(shownF q).d=shownD:=rfl
theorem ZgX (f:FnV) (h:JK f.d):FnR f:=by
 have k:∀ {x : Int},In32W x→ZO x:=fun {x} h=>⟨by have:=h.1;omega,by have:=h.2;omega⟩
 refine⟨k h.params,fun b hb=>?_⟩;have ha:=h.blocks b.d (List.mem_map_of_mem hb);refine⟨fun p hp=>?_,fun i hi=>?_,?_⟩
 ·obtain⟨h1,h2,_⟩:=ha.phis p.d (List.mem_map_of_mem hp);exact⟨k h1,fun x hx=>⟨k (h2 x hx).1,k (h2 x hx).2⟩⟩
 ·have h1:=ha.ins i.d (List.mem_map_of_mem hi);exact⟨k h1.op,k h1.dst,k h1.two,fun y hy=>k (h1.args.1 y hy),h1.imm⟩
 ·have h1:=ha.term;exact⟨k h1.kd,fun y hy=>k (h1.ar.1 y hy),fun y hy=>k (h1.tg.1 y hy),h1.imm⟩
theorem ZeY (q:Nat):FnR (shownF q):=ZgX _ VV
theorem ZdY {w : World} {q : Nat} {T1 T2 T3 T4:TypeId} (h1:HeapIs w q #[.int .i64 0,.int .i64 1] T1) (h2:HeapIs w (q+1) #[.int .i64 2,.int .i64 2,.int .i64 0,.slice (some ⟨q,0,none⟩) 2 2,.int .i32 0] T2)
  (h3:HeapIs w (q+1+1) #[.int .i64 2] T3) (h4:HeapIs w (q+1+1+1) #[.slice none 0 0,.slice (some ⟨q+1,0,none⟩) 1 1,.int .i64 4,.slice (some ⟨q+1+1,0,none⟩) 1 1,.slice none 0 0,.int .i32 0] T4):FnIn w (shownF q):=by
 refine Zbt fbcells 6 We _ h4 (fun k hk=>by rw[←Array.getElem?_toList];rfl) ⟨.inl ⟨none,rfl,rfl⟩,Zbt ZA 5 Wd _ h2 (fun k hk=>by rw[←Array.getElem?_toList];rfl) ?_,?_,.inl ⟨none,rfl,rfl⟩⟩
 ·exact ZaV [0,1] h1 rfl (by decide) fun j x hj=>by
   rcases j with _|_|j;iterate 2
    ·obtain rfl:=Option.some.inj hj;rfl
   ·cases hj
 ·exact ZaV [2] h3 rfl (by decide) fun j x hj=>by
   rcases j with _|j
   ·obtain rfl:=Option.some.inj hj;rfl
   ·cases hj
theorem Zch:shownB.data.toList=Qk:=rfl
def ZcY (w w5:World):Prop:=FnIn w5 (shownF w.heap.size)∧HeapIs w5 (w.heap.size+1+1+1+1) #[.int .i64 2,.slice (some ⟨w.heap.size+1+1+1,0,none⟩) 1 1] 24∧Since w w5
theorem ZeX (w:World):ZcY w (((((w.alloc (.cells #[.int .i64 0,.int .i64 1] 3)).alloc (.cells #[.int .i64 2,.int .i64 2,.int .i64 0,.slice (some ⟨w.heap.size,0,none⟩) 2 2,.int .i32 0] 51)).alloc (.cells #[.int .i64 2] 3)).alloc
  (.cells #[.slice none 0 0,.slice (some ⟨w.heap.size+1,0,none⟩) 1 1,.int .i64 4,.slice (some ⟨w.heap.size+1+1,0,none⟩) 1 1,.slice none 0 0,.int .i32 0] 57)).alloc (.cells #[.int .i64 2,.slice (some ⟨w.heap.size+1+1+1,0,none⟩) 1 1] 24)):=by
 have sz:∀ (u:World) (o:Obj),(u.alloc o).heap.size=u.heap.size+1:=fun u o=>by show (u.heap.push o).size=_;exact Array.size_push _
 have nw:∀ (u:World) (k:Nat) (cs:Array Value) (T:TypeId),u.heap.size=k→HeapIs (u.alloc (.cells cs T)) k cs T:=fun u k cs T h=>h ▸ HeapIs.new u cs T
 obtain⟨q,hq⟩:∃ q,w.heap.size=q:=⟨_,rfl⟩
 unfold ZcY;rw[hq];have m1:=nw w q #[.int .i64 0,.int .i64 1] 3 hq;have z1:=(sz w (.cells #[.int .i64 0,.int .i64 1] 3)).trans (congrArg (· + 1) hq);have s1:Since w (w.alloc (.cells #[.int .i64 0,.int .i64 1] 3)):=(Since.refl w).alloc _;generalize w.alloc (.cells #[.int .i64 0,.int .i64 1] 3)=w1 at *;have m2:=nw w1 (q+1) #[.int .i64 2,.int .i64 2,.int .i64 0,.slice (some ⟨q,0,none⟩) 2 2,.int .i32 0] 51 z1;have z2:=(sz w1 (.cells #[.int .i64 2,.int .i64 2,.int .i64 0,.slice (some ⟨q,0,none⟩) 2 2,.int .i32 0] 51)).trans (congrArg (· + 1) z1);have s2:Since w1 (w1.alloc (.cells #[.int .i64 2,.int .i64 2,.int .i64 0,.slice (some ⟨q,0,none⟩) 2 2,.int .i32 0] 51)):=(Since.refl w1).alloc _;generalize w1.alloc (.cells #[.int .i64 2,.int .i64 2,.int .i64 0,.slice (some ⟨q,0,none⟩) 2 2,.int .i32 0] 51)=w2 at *;have m3:=nw w2 (q+1+1) #[.int .i64 2] 3 z2;have z3:=(sz w2 (.cells #[.int .i64 2] 3)).trans (congrArg (· + 1) z2)
 have s3:Since w2 (w2.alloc (.cells #[.int .i64 2] 3)):=(Since.refl w2).alloc _;generalize w2.alloc (.cells #[.int .i64 2] 3)=w3 at *;have m4:=nw w3 (q+1+1+1) #[.slice none 0 0,.slice (some ⟨q+1,0,none⟩) 1 1,.int .i64 4,.slice (some ⟨q+1+1,0,none⟩) 1 1,.slice none 0 0,.int .i32 0] 57 z3;have z4:=(sz w3 (.cells #[.slice none 0 0,.slice (some ⟨q+1,0,none⟩) 1 1,.int .i64 4,.slice (some ⟨q+1+1,0,none⟩) 1 1,.slice none 0 0,.int .i32 0] 57)).trans (congrArg (· + 1) z3);have s4:Since w3 (w3.alloc (.cells #[.slice none 0 0,.slice (some ⟨q+1,0,none⟩) 1 1,.int .i64 4,.slice (some ⟨q+1+1,0,none⟩) 1 1,.slice none 0 0,.int .i32 0] 57)):=(Since.refl w3).alloc _;generalize w3.alloc (.cells #[.slice none 0 0,.slice (some ⟨q+1,0,none⟩) 1 1,.int .i64 4,.slice (some ⟨q+1+1,0,none⟩) 1 1,.slice none 0 0,.int .i32 0] 57)=w4 at *;have m5:=nw w4 (q+1+1+1+1) #[.int .i64 2,.slice (some ⟨q+1+1+1,0,none⟩) 1 1] 24 z4
 have s5:Since w4 (w4.alloc (.cells #[.int .i64 2,.slice (some ⟨q+1+1+1,0,none⟩) 1 1] 24)):=(Since.refl w4).alloc _;exact⟨ZdY (m1.keep (((s2.trans s3).trans s4).trans s5)) (m2.keep ((s3.trans s4).trans s5)) (m3.keep (s4.trans s5)) (m4.keep s5),m5,(((s1.trans s2).trans s3).trans s4).trans s5⟩
theorem Zci (w:World) (hL:Ys w):Calls Tryz.prog 9 #[] w fun e w'=>e=.returned (.bool true)∧Since w w':=by
 have HL:=hid hL;have HA:=hid (ZeX w);clear hL;go_enter Tryz.func9,Tryz.ntmps9
 go_upto_region 3 with fail
 revert HA
 generalize (((((w.alloc (.cells #[.int .i64 0,.int .i64 1] 3)).alloc (.cells #[.int .i64 2,.int .i64 2,.int .i64 0,.slice (some ⟨w.heap.size,0,none⟩) 2 2,.int .i32 0] 51)).alloc (.cells #[.int .i64 2] 3)).alloc
  (.cells #[.slice none 0 0,.slice (some ⟨w.heap.size+1,0,none⟩) 1 1,.int .i64 4,.slice (some ⟨w.heap.size+1+1,0,none⟩) 1 1,.slice none 0 0,.int .i32 0] 57)).alloc (.cells #[.int .i64 2,.slice (some ⟨w.heap.size+1+1+1,0,none⟩) 1 1] 24))=w5
 intro HA;obtain⟨ho,hp,hm⟩:=HA.out;have hq:=hid ho;have hr:=hid hp;have hj:=hid hm;clear ho hp hm;generalize w.heap.size=q at *;clear HA;go_wp2_with fail
 refine (ZaN shownB w5 (by decide) (HL.out.keep hj.out)).mono ?_;rintro e w6 ⟨f,line,er,rfl,hf,hd,hl⟩;rw[Zch,KC]at hd;obtain rfl:line=0:=congrArg Xm.line hd;obtain rfl:er=0:=congrArg Xm.e hd;have HD:=hid (congrArg Xm.f hd);have HF:=hid hf;have hc:=hid hl;clear hf hd hl;obtain⟨p1,b1,v1⟩:=f;obtain⟨a1,c1,e1,_⟩:=RowIn.shape HF.out;obtain⟨n1,hn⟩:∃ n,b1.length=n:=⟨_,rfl⟩
 replace e1:v1=.slice a1 n1 c1:=by rw[←hn];exact e1
 subst e1;clear hn;unfold fv;dsimp only;go_upto_region 4 with fail
 have hh:Since w6 (w6.alloc (.cells #[.int .i64 p1,.slice a1 n1 c1] 24)):=(Since.refl w6).alloc _;have he:=HeapIs.new w6 #[.int .i64 p1,.slice a1 n1 c1] 24;obtain⟨w7,hg⟩:∃ w7,w6.alloc (.cells #[.int .i64 p1,.slice a1 n1 c1] 24)=w7:=⟨_,rfl⟩
 obtain⟨q1,hi⟩:∃ q,w6.heap.size=q:=⟨_,rfl⟩
 rw[hg]at hh he;rw[hi]at he;try rw[hg]
 try rw[hi]
 have hu:=hid he;have ha:=hid hh;clear hh he hg hi;have g0:=hr.out.keep (hc.out.trans ha.out);have z00:=g0.cell 0;have z01:=g0.cell 1;have z0l:=g0.lt;clear g0;have HT:=hid (ZdT (shownF q) w7 (hq.out.keep (hc.out.trans ha.out)) (ZeY q) ((HL.out.keep hj.out).keep (hc.out.trans ha.out)) (by rw[VF,Qj];decide));go_wp2_with fail
 refine HT.out.mono ?_;rintro e w8 ⟨rfl,hb⟩;rw[VF,Qj];have ht:=hid hb;have HC:=hid (Zbo (shownF q) ⟨p1,b1,.slice a1 n1 c1⟩ w8 (hq.out.keep ((hc.out.trans ha.out).trans hb)) (HF.out.keep (ha.out.trans hb)) ((VF q).trans HD.out.symm) (QF _ (by rw[VF];exact VV)) (QF _ (by rw[HD.out];exact VV)) (Qv _ (by rw[VF];exact VV)));have g0:=hr.out.keep ((hc.out.trans ha.out).trans hb);have y00:=g0.cell 0;have y01:=g0.cell 1;have y0l:=g0.lt;have g1:=hu.out.keep hb;have y10:=g1.cell 0;have y11:=g1.cell 1;have y1l:=g1.lt;clear hb g0 g1 z00 z01 z0l;go_wp2_with fail
 refine HC.out.mono ?_;rintro e w9 ⟨rfl,hk⟩;have hs:=hid (((hj.out.trans hc.out).trans (ha.out.trans ht.out)).trans hk);clear hk;go_wp2
 go_ret
 exact⟨rfl,hs.out⟩
theorem RowIn.cut {α:Type} {f : α→List Value} {sz:Nat} {p : World→α→Prop} {w : World} {a : Option Addr} {n c k:Nat} {l : List α} (h:RowIn f sz p w (.slice a n c) l) (hk:k≤n):RowIn f sz p w (.slice a k c) (l.take k):=by
 rcases h with ⟨x,h1,h2⟩|⟨b,off,cap,h1,h2,h3,h4,h5⟩
 ·cases h1
  obtain rfl:k=0:=by omega
  exact .inl ⟨_,rfl,by simp⟩
 ·cases h1
  have hl:(l.take k).length=k:=by rw[List.length_take];omega
  refine .inr ⟨b,off,_,by rw[hl],by omega,h3,h4,fun j x hj=>h5 j x ?_⟩;have:=(List.getElem?_eq_some_iff.1 hj).1
  rwa [List.getElem?_take_of_lt (by omega)]at hj
theorem ZN.cutTo {kd:IntKind} {w : World} {a : Option Addr} {n c k:Nat} {l : List Int} (h:ZN kd w (.slice a n c) l) (hk:k≤n):ZN kd w (.slice a k c) (l.take k):=by
 rcases h with ⟨x,h1,h2⟩|⟨b,off,cap,h1,h2,h3,h4,h5⟩
 ·cases h1
  obtain rfl:k=0:=by omega
  exact .inl ⟨_,rfl,by simp⟩
 ·cases h1
  have hl:(l.take k).length=k:=by rw[List.length_take];omega
  refine .inr ⟨b,off,_,by rw[hl],by omega,h3,h4,fun j x hj=>h5 j x ?_⟩;have:=(List.getElem?_eq_some_iff.1 hj).1
  rwa [List.getElem?_take_of_lt (by omega)]at hj
section
variable {wx w w':World} {q : Nat} {k im:Int} {av tv phv inv phv' inv':Value} {phl:List ZC} {il:List FIns}
end
section
variable {wa w0 w w':World} {qg:Nat} {p : Int} {gv gv':Value} {gl:List FBlk}
end
section
variable {w w':World} {rb:Nat} {p : Int} {bv0 bv1:Value}
structure Zca (w w':World) (rb:Nat) (p:Int) (v:Value):Prop where
 was:HeapIs w rb #[.int .i64 0,.slice none 0 0] 24
 now:HeapIs w' rb #[.int .i64 p,v] 24
 turn:Turn (fun q=>q=rb) w w'
def rmI (rb:Nat) (p:Int) (v:Value) (l:List Int):List Int:=if v.ownBlock=some rb then l.map (fun _=>p) else l
theorem ZcD (rb:Nat) (p:Int) (v:Value) (l:List Int):(rmI rb p v l).length=l.length:=by unfold rmI;split<;>simp
theorem ZcC {rb:Nat} {p : Int} {v : Value} {l : List Int}:∀ y∈rmI rb p v l,y∈l∨y=p:=fun y hy=>by
 unfold rmI at hy
 split at hy
 ·obtain⟨_,_,rfl⟩:=List.mem_map.1 hy;exact .inr rfl
 ·exact .inl hy
theorem V2 {i : Nat} {y : Int} (h:HeapIs w rb #[.int .i64 0,.slice none 0 0] 24) (hc:w.cell? ⟨rb,i,none⟩=some (.int .i64 y)):i=0∧y=0:=by
 rw[h.cell]at hc
 match i,hc with
 | 0,hc=>exact⟨rfl,by cases hc;rfl⟩
 | 1,hc=>cases hc
 | n+2,hc=>simp at hc
theorem Zai {v bw:Value} {l : List Int} (b:Zca w w' rb p bw) (h:Zm w v l):Zm w' v (rmI rb p v l):=by
 rcases h with ⟨a,h1,rfl⟩|⟨g,off,cap,h1,h2,h3,h4,h5⟩
 ·exact .inl ⟨a,h1,by unfold rmI;split<;>rfl⟩
 ·subst h1;have ha:=b.turn.size;by_cases hg:g=rb
  ·subst hg;have e:rmI g p (.slice (some ⟨g,off,none⟩) l.length cap) l=l.map fun _=>p:=if_pos rfl
   rw[e];refine .inr ⟨g,off,cap,by rw[List.length_map],by rw[List.length_map];exact h2,h3,by omega,fun j y hj=>?_⟩;rw[List.getElem?_map]at hj;obtain⟨z,hz,rfl⟩:=Option.map_eq_some_iff.1 hj;obtain⟨h6,_⟩:=V2 b.was (h5 j z hz);rw[h6,b.now.cell];rfl
  ·have e:rmI rb p (.slice (some ⟨g,off,none⟩) l.length cap) l=l:=if_neg fun e=>hg (Option.some.inj e)
   rw[e];refine .inr ⟨g,off,cap,rfl,h2,h3,by omega,fun j y hj=>?_⟩;rw[b.turn.cell (p:=⟨g,off+j,none⟩) h4 hg];exact h5 j y hj
theorem Zem {v bw:Value} {l : List Int} (b:Zca w w' rb p bw) (h:Zm w v l) (hz:∀ y∈l,y≠0):Zm w' v l:=by
 have h0:=Zai b h;rcases h with ⟨a,h1,rfl⟩|⟨g,off,cap,h1,h2,h3,h4,h5⟩
 ·exact .inl ⟨a,h1,rfl⟩
 ·have e:rmI rb p v l=l:=by
   subst h1;unfold rmI;split
   ·rename_i hg
    obtain rfl:g=rb:=Option.some.inj hg
    cases l with
    | nil=>rfl
    | cons y r =>
     have:=V2 b.was (h5 0 y rfl);exact absurd this.2 (hz y (List.mem_cons_self ..))
   ·rfl
  rwa [e]at h0
theorem Zdh {v bw:Value} {l : List (Int × Int)} (b:Zca w w' rb p bw) (h:YI w v l):YI w' v l:=by
 rcases h with ⟨a,h1,rfl⟩|⟨g,off,cap,h1,h2,h3,h4,h5⟩
 ·exact .inl ⟨a,h1,rfl⟩
 ·have ha:=b.turn.size;refine .inr ⟨g,off,cap,h1,h2,h3,by omega,fun j y hj=>⟨fun t ht=>?_,trivial⟩⟩
  by_cases hg:g=rb
  ·subst hg;have c0:=(h5 j y hj).1 0 (by decide);have c1:=(h5 j y hj).1 1 (by decide);have g0:=V2 b.was c0;have g1:=V2 b.was c1;omega
  ·rw[b.turn.cell (p:=⟨g,off+j*2+t,none⟩) h4 hg];exact (h5 j y hj).1 t ht
end
def FIns.rm (rb:Nat) (p:Int) (x:FIns):FIns:={ x with args:=rmI rb p x.av x.args }
def Zt.rm (rb:Nat) (p:Int) (x:Zt):Zt:={ x with args:=rmI rb p x.argsv x.args }
def FBlk.rm (rb:Nat) (p:Int) (b:FBlk):FBlk:=⟨b.phis,b.phv,b.ins.map (FIns.rm rb p),b.inv,b.term.rm rb p⟩
def FnV.rm (rb:Nat) (p:Int) (f:FnV):FnV:=⟨f.params,f.blocks.map (FBlk.rm rb p),f.bv⟩
theorem Q6 {α:Type} {f : α→List Value} {sz:Nat} {p p':World→α→Prop} {w w':World} {v : Value} {l : List α} (g:α→α) (hg:∀ x,f (g x)=f x) (h:RowIn f sz p w v l) (hc:∀ q i,v.ownBlock=some q→w'.cell? ⟨q,i,none⟩=w.cell? ⟨q,i,none⟩) (hs:w.heap.size≤w'.heap.size) (hp:∀ x∈l,p w x→p' w' (g x)):RowIn f sz p' w' v (l.map g):=by
 rcases h with ⟨a,h1,rfl⟩|⟨b,off,cap,h1,h2,h3,h4,h5⟩
 ·exact .inl ⟨a,h1,rfl⟩
 ·refine .inr ⟨b,off,cap,by rw[List.length_map];exact h1,by rw[List.length_map];exact h2,h3,by omega,fun j y hj=>?_⟩;rw[List.getElem?_map]at hj;obtain⟨z,hz,rfl⟩:=Option.map_eq_some_iff.1 hj;exact⟨fun t ht=>by rw[hc b _ (by rw[h1];rfl),hg];exact (h5 j z hz).1 t ht,hp z (List.mem_of_getElem? hz) (h5 j z hz).2⟩
theorem Zhi {w w':World} {rb:Nat} {p : Int} {bw:Value} {f : FnV} (b:Zca w w' rb p bw) (h:FnIn w f) (ht:ZfL w f) (hf:∀ k∈f.blocks,∀ y∈k.term.to,y≠0):FnIn w' (f.rm rb p):=by
 have ha:∀ q i,q<w.heap.size→q≠rb→w'.cell? ⟨q,i,none⟩=w.cell? ⟨q,i,none⟩:=fun q i h1 h2=>b.turn.cell (p:=⟨q,i,none⟩) h1 h2
 have hb:∀ {α:Type} {g : α→List Value} {sz n:Nat} {e : TypeId} {v : Value} {l : List α},OwnRow g sz e n w v l→e≠24→∀ q i,v.ownBlock=some q→w'.cell? ⟨q,i,none⟩=w.cell? ⟨q,i,none⟩:=fun ho he q i hq=>by
  refine ha q i (World.ownsRow.lt ho q hq).2 fun e2=>?_
  subst e2;exact Zk ho b.was (fun e3=>he e3) hq
 obtain⟨hc,bb,n,hh,hd⟩:=ht;refine Q6 (FBlk.rm rb p) (fun _=>rfl) h (fun q i hq=>?_) b.turn.size fun k hk hg=>?_
 ·replace hq:f.bv.ownBlock=some q:=hq
  rw[hh]at hq;obtain rfl:bb=q:=Option.some.inj hq;exact ha bb i hd.lt fun e=>by subst e;exact Y4 hd b.was (by decide) rfl
 ·obtain⟨h1,h2,h3⟩:=hg;have e1:(fun x:ZC=>x)=id:=rfl;refine⟨?_,Q6 (FIns.rm rb p) (fun _=>rfl) h2 (hb (hc k hk).2 (by decide)) b.turn.size fun x _ hx=>Zai b hx,Zai b h3.1,Zem b h3.2 (hf k hk)⟩;have:=Q6 (p':=VR) (fun x:ZC=>x) (fun _=>rfl) h1 (hb (hc k hk).1 (by decide)) b.turn.size fun x _ hx=>Zdh b hx
  rwa [List.map_id']at this
theorem Zgk {rb:Nat} {p : Int} {f : FnV} (h:MadeF f) (hp:0≤p∧p<700):MadeF (f.rm rb p):=by
 have hl:(f.rm rb p).blocks.length=f.blocks.length:=List.length_map _;refine⟨h.params,by rw[hl];exact h.blocks,fun k hk=>?_,fun k hk=>?_,fun k hk x hx=>?_,?_,fun k hk=>?_⟩
 ·have hb:(f.blocks.map (FBlk.rm rb p))[0]? = some k:=hk;rw[List.getElem?_map]at hb;obtain⟨z,hz,rfl⟩:=Option.map_eq_some_iff.1 hb;exact h.head z hz
 ·obtain⟨z,hz,rfl⟩:=List.mem_map.1 (show k∈f.blocks.map (FBlk.rm rb p) from hk)
  rw[hl];exact h.phis z hz
 ·obtain⟨z,hz,rfl⟩:=List.mem_map.1 (show k∈f.blocks.map (FBlk.rm rb p) from hk)
  obtain⟨y,hy,rfl⟩:=List.mem_map.1 (show x∈z.ins.map (FIns.rm rb p) from hx)
  have g:=h.ins z hz y hy;refine⟨g.1,fun a ha=>?_,g.2.2.1,g.2.2.2.1,?_⟩
  ·rcases ZcC a ha with h1|rfl
   ·exact g.2.1 a h1
   ·exact hp
  ·show ((y.op=1∧(rmI rb p y.av y.args).length=0)∨((2≤y.op∧y.op≤14)∧(rmI rb p y.av y.args).length=2)∨(y.op=15∧(rmI rb p y.av y.args).length=1)∨(y.op=16∧(rmI rb p y.av y.args).length=2)∨(y.op=17∧(rmI rb p y.av y.args).length≤4)∨(y.op=18∧(rmI rb p y.av y.args).length=2∧y.dst≠y.two))
   rw[ZcD];exact g.2.2.2.2
 ·have e:((f.blocks.map (FBlk.rm rb p)).map fun b=>b.ins.length)=f.blocks.map fun b=>b.ins.length:=by
   rw[List.map_map];exact List.map_congr_left fun b _=>List.length_map _
  show ((f.blocks.map (FBlk.rm rb p)).map fun b=>b.ins.length).sum≤700
  rw[e];exact h.total
 ·obtain⟨z,hz,rfl⟩:=List.mem_map.1 (show k∈f.blocks.map (FBlk.rm rb p) from hk)
  have g:=h.terms z hz;rw[hl];refine⟨g.1,fun a ha=>?_,g.2.2.1,?_⟩
  ·rcases ZcC a ha with h1|rfl
   ·exact g.2.1 a h1
   ·exact hp
  ·show ((z.term.kind=1∧(rmI rb p z.term.argsv z.term.args).length=0∧z.term.to.length=1)∨(z.term.kind=2∧(rmI rb p z.term.argsv z.term.args).length=1∧z.term.to.length=2)∨(z.term.kind=3∧(rmI rb p z.term.argsv z.term.args).length=1∧2≤z.term.to.length∧z.term.to.length≤65)∨(z.term.kind=4∧(rmI rb p z.term.argsv z.term.args).length≤1∧z.term.to.length=0)∨(z.term.kind=5∧(rmI rb p z.term.argsv z.term.args).length=0∧z.term.to.length=0))
   rw[ZcD];exact g.2.2.2
theorem VC {x : Int} (h:0≤x∧x<700):ZO x:=⟨by omega,by omega⟩
theorem ZgT {f : FnV} (h:MadeF f):FnR f:=by
 have hb:=h.blocks;refine⟨⟨by have:=h.params;omega,by have:=h.params;omega⟩,fun k hk=>⟨fun p hp=>?_,fun x hx=>?_,?_⟩⟩
 ·have g:=(h.phis k hk).2 p hp;exact⟨VC g.1,fun y hy=>⟨⟨by have:=(g.2.2 y hy).1;omega,by have:=(g.2.2 y hy).1;omega⟩,VC (g.2.2 y hy).2⟩⟩
 ·have g:=h.ins k hk x hx;have g5:=g.2.2.2.2;exact⟨⟨by omega,by omega⟩,VC g.2.2.1,VC g.2.2.2.1,fun y hy=>VC (g.2.1 y hy),g.1⟩
 ·have g:=h.terms k hk;have g5:=g.2.2.2;exact⟨⟨by omega,by omega⟩,fun y hy=>VC (g.2.1 y hy),fun y hy=>⟨by have:=g.2.2.1 y hy;omega,by have:=g.2.2.1 y hy;omega⟩,g.1⟩
theorem Zdx:∀ n:Nat,n<700→(Lib.itoa (n:Int)).length≤3:=by
 intro n hn;have h:Lib.itoa (n:Int)=Lib.decDigits n:=by rw[XB (by omega)];simp
 rw[h];have h1:∀ a:Nat,a<10→(Lib.decDigits a).length=1:=fun a ha=>by rw[Z6 ha];rfl
 have h2:∀ a:Nat,¬ a<10→(Lib.decDigits a).length=(Lib.decDigits (a / 10)).length+1:=fun a ha=>by
  rw[YJ (by omega)];simp
 by_cases c1:n<10
 ·rw[h1 n c1];decide
 ·rw[h2 n c1];by_cases c2:n / 10<10
  ·rw[h1 _ c2];decide
  ·rw[h2 _ c2,h1 _ (by omega)];decide
theorem Vf {x : Int} (h:0≤x∧x<700):(dS x).length≤4:=by
 obtain⟨n,rfl⟩:∃ n:Nat,x=n:=⟨x.toNat,by omega⟩
 have:=Zdx n (by omega);unfold dS;simp only[List.length_cons];omega
theorem ZcV {x : Int} (h:In32W x):(dS x).length≤12:=by
 have h1:∀ u,u≤2147483648→(Lib.decDigits u).length≤10:=QK
 unfold In32W at h;unfold dS;by_cases hx:x<0
 ·rw[XX hx];have:=h1 x.natAbs (by omega);simp only[List.length_cons];omega
 ·rw[XB hx];have:=h1 x.toNat (by omega);simp only[List.length_cons];omega
theorem K6 (l:List Int) (n:Nat) (h:∀ x∈l,0≤x∧x<700) (hn:l.length≤n):(allS l).length≤4*n:=VM dS 4 n l (fun x hx=>Vf (h x hx)) hn
theorem Zfp (x:FIns) (h:Yq 700 x):(ZM x.d).length≤44:=by
 have h1:=ZgN x.op;have h2:=Vf h.2.2.1;have h3:=Vf h.2.2.2.1;have h4:=ZcV (x:=x.imm) h.1;have h5:=K6 x.args 4 h.2.1 (by have:=h.2.2.2.2;omega);unfold ZM FIns.d;dsimp only;split
 ·simp only[List.length_append];omega
 ·split
  ·simp only[List.length_append];omega
  ·split
   ·simp only[List.length_append];omega
   ·split
    ·simp only[List.length_append];omega
    ·split
     ·simp only[List.length_append];omega
     ·split
      ·simp only[List.length_append];omega
      ·show 1≤_;omega
theorem ZdU (x:Zt) (n:Nat) (hn:n≤9) (h:Y6 700 n x):(Yi x.d).length≤280:=by
 have h3:=ZeT x.kind;have h4:=ZcV (x:=x.imm) h.1;have h5:=K6 x.args 1 h.2.1 (by have:=h.2.2.2;omega);have h6:=K6 x.to 65 (fun y hy=>by have:=h.2.2.1 y hy;omega) (by have:=h.2.2.2;omega);unfold Yi Zt.d;dsimp only;split
 ·show 1≤_;omega
 ·split
  iterate 2
   ·simp only[List.length_append];omega
theorem Zfb (p:ZC) (h:(0≤p.dst∧p.dst<700)∧p.ins.length≤9∧∀ y∈p.ins,(0≤y.1∧y.1<(700:Int))∧0≤y.2∧y.2<700):(Jr p.d).length≤79:=by
 have h1:=Vf h.1;have h2:=VM YS 8 9 p.ins (fun y hy=>by
  have g1:=Vf (h.2.2 y hy).1;have g2:=Vf (h.2.2 y hy).2;unfold dS at g2;unfold YS;simp only[List.length_append,List.length_cons]at g2 ⊢;omega) h.2.1
 unfold Jr ZC.d;dsimp only;simp only[List.length_append,List.length_cons,List.length_nil];omega
theorem ZgA (k:Nat) (b:FBlk) (n:Nat) (hn:n≤9) (hk:k<n) (h1:b.phis.length≤3∧∀ p∈b.phis,(0≤p.dst∧p.dst<700)∧p.ins.length≤9∧∀ y∈p.ins,(0≤y.1∧y.1<(n:Int))∧0≤y.2∧y.2<700) (h2:∀ x∈b.ins,Yq 700 x) (h3:Y6 700 n b.term):(V6 k b.d).length≤540+45*b.ins.length:=by
 have g1:=Vf (x:=(k:Int)) (by omega);have g2:(b.d.phis.flatMap fun p=>Jr p++[10]).length≤80*3:=by
  refine VM _ _ 3 _ (fun x hx=>?_) (by show (b.phis.map ZC.d).length≤3;rw[List.length_map];exact h1.1)
  obtain⟨p,hp,rfl⟩:=List.mem_map.1 (show x∈b.phis.map ZC.d from hx);have g:=h1.2 p hp;have:=Zfb p ⟨g.1,g.2.1,fun y hy=>⟨by have:=(g.2.2 y hy).1;omega,(g.2.2 y hy).2⟩⟩
  rw[List.length_append,List.length_singleton];omega
 have g3:(b.d.ins.flatMap fun i=>ZM i++[10]).length≤45*b.ins.length:=by
  refine VM _ _ _ _ (fun x hx=>?_) (by show (b.ins.map FIns.d).length≤_;rw[List.length_map];exact Nat.le_refl _)
  obtain⟨p,hp,rfl⟩:=List.mem_map.1 (show x∈b.ins.map FIns.d from hx);have:=Zfp p (h2 p hp);rw[List.length_append,List.length_singleton];omega
 have g4:=ZdU b.term n hn h3;have g5:b.d.term=b.term.d:=rfl;rw[Zgz,g5];omega
theorem Zb0 (n:Nat) (hn:n≤9):∀ (m:Nat) (l:List FBlk),m≤l.length→l.length≤n→(∀ k b,l[k]? = some b→(V6 k b.d).length≤540+45*b.ins.length)→(blksS (l.map FBlk.d) m).length≤540*m+45*((l.take m).map fun b=>b.ins.length).sum
 | 0,l,_,_,_=>by simp[blksS]
 | m+1,l,hm,hl,h=>by
  have ih:=Zb0 n hn m l (by omega) hl h
  have hb:l[m]? = some l[m]:=List.getElem?_eq_getElem (by omega)
  have h1:(l.map FBlk.d)[m]? = some l[m].d:=by rw[List.getElem?_map,hb];rfl
  rw[V3 h1,List.length_append,List.take_add_one,hb]
  have h2:=h m _ hb
  simp only[Option.toList_some,List.map_append,List.map_cons,List.map_nil,List.sum_append,List.sum_cons,List.sum_nil]
  omega
theorem ZbK {f : FnV} (h:MadeF f):(XP f.d).length≤36400:=by
 have hb:=h.blocks;have h1:=Zb0 f.blocks.length hb.2 f.blocks.length f.blocks (Nat.le_refl _) (Nat.le_refl _) fun k b hk=>by
  have hm:=List.mem_of_getElem? hk;have ha:=(List.getElem?_eq_some_iff.1 hk).1;exact ZgA k b f.blocks.length hb.2 ha (h.phis b hm) (h.ins b hm) (h.terms b hm)
 rw[List.take_length]at h1;have h2:=h.total;have h3:=Vf (x:=f.params) (by have:=h.params;omega);unfold XP;have e:f.d.blocks=f.blocks.map FBlk.d:=rfl;have e2:f.d.params=f.params:=rfl;rw[e,e2,List.length_map];simp only[List.length_append,List.length_cons,List.length_nil];omega
def ZgG (w:World) (e:Ending) (w':World):Prop:=∃ f,e=.returned (fv f)∧FnIn w' f∧MadeF f∧Since w w'
theorem Zdn (sv:Value) (l:List Int) (w:World) (hs:Zm w sv l) (ho:∀ q,sv.ownBlock=some q→q<w.heap.size):Calls Tryz.prog 17 #[sv] w (ZgG w):=by
 obtain⟨sa,sc,hv,hx,hl⟩:∃ a c,sv=.slice a l.length c∧l.length≤c∧c≤maxLen:=by
  rcases hs with ⟨a,h1,h2⟩|⟨b,off,cap,h1,h2,h3,_⟩
  ·subst h2;exact⟨a,0,h1,Nat.le_refl _,Nat.zero_le _⟩
  ·exact⟨_,cap,h1,h2,h3⟩
 subst hv;unfold maxLen at hl;obtain⟨n,hn⟩:∃ n,l.length=n:=⟨_,rfl⟩
 obtain⟨m,hm,hz⟩:∃ m,min n 200=m∧m≤n:=⟨_,rfl,by omega⟩
 have hd:∀ q,(Value.slice sa m sc).ownBlock=some q→q<w.heap.size:=by
  intro q hq;apply ho
  cases sa<;>exact hq
 have ht:=fun w1 (h:Since w w1)=>Zfm (.slice sa m sc) (l.take m) w1 (ZN.cutTo (hs.keep h) (by rw[hn];exact hz)) (fun q hq=>Nat.lt_of_lt_of_le (hd q hq) h.size)
 have hE:=hid ht;rw[hn]at hx;have hJ:min (n:Int) 200=m:=by omega
 have hK:m≤sc:=by omega
 rw[hn];clear ht hs ho hd hn hm;go_enter Tryz.func17,Tryz.ntmps17
 go_upto_region 1 with fail
 obtain⟨rb,ha⟩:∃ z,z=w.heap.size:=⟨_,rfl⟩
 obtain⟨w1,hb⟩:∃ z,z=w.alloc (.cells #[.int .i64 0,.slice none 0 0] 24):=⟨_,rfl⟩
 have hD:=zH (HeapIs w1 rb #[.int .i64 0,.slice none 0 0] 24) (by rw[hb,ha];exact HeapIs.new _ _ _);have hu:=zH (Since w w1) (by rw[hb];exact (Since.refl w).alloc _)
 have hA:=hid ha;rw[←hb,←ha];clear hb ha;go_wp2_with fail
 refine (hE.out w1 hu.out).mono ?_;rintro e w3 ⟨f,rfl,hf,hr,he,_,hc⟩;obtain⟨p1,b1,v1⟩:=f;obtain⟨bb,bn,hh,_⟩:=hc.2
 replace hh:v1=.slice (some ⟨bb,0,none⟩) bn bn:=hh
 subst hh;have HF:=hid hf;have hj:=hid hr;have hB:=hid hc;have hC:=hid (hu.out.trans he);have ha:=hD.out.keep he;have hi:=hid ha;have hI:=ha.cell 0;have hH:=ha.cell 1;have hF:=ha.lt;have hG:=ha.frozen;unfold fv;dsimp only;clear hf hr hc he ha;go_wp2_with fail
 have hg:=(hi.out.set 0 (.int .i64 p1)).set 1 (.slice (some ⟨bb,0,none⟩) bn bn);try simp only[Exit.inBlock,Exit.then]
 refine bodyPost_ret (results_cell_row rfl _ _ rb 24 #[.int .i64 p1,.slice (some ⟨bb,0,none⟩) bn bn] (0,0) _ rfl hg Tryz.underlying24 rfl (by kernel_rfl)) rfl ?_;have t:Turn (fun q=>q=rb) w3 ((w3.setCell ⟨rb,0,none⟩ (.int .i64 p1)).setCell ⟨rb,1,none⟩ (.slice (some ⟨bb,0,none⟩) bn bn)):=((Turn.refl (fun q=>q=rb) w3).setCell (p:=⟨rb,0,none⟩) rfl _).setCell (p:=⟨rb,1,none⟩) rfl _;have bt:Zca w3 _ rb p1 (.slice (some ⟨bb,0,none⟩) bn bn):=⟨hi.out,hg,t⟩;have hp:0≤p1∧p1≤4:=hj.out.params;exact⟨FnV.rm rb p1 ⟨p1,b1,.slice (some ⟨bb,0,none⟩) bn bn⟩,rfl,Zhi bt HF.out hB.out (fun k hk y hy=>by have:=(hj.out.terms k hk).2.2.1 y hy;omega),Zgk hj.out ⟨hp.1,by have:=hp.2;omega⟩,t.toSince hC.out fun q hq e=>by have:=hA.out;omega⟩
def Kq:List Int:=[1,2,1,1,3,1,1,1,1,1,1,1,1,1,12,1,1,1,1,1,1,3,2,2,2,4,1,1,1,3,6,4,1,1,1,1,2]
def costA:Array Value:=(Kq.map (Value.int .i64)).toArray
theorem KR {P : Program} {ops:Array Oper} {rest:List Oper} {o : Oper} {a : Act} {w : World} {Q : Exit→Act→World→Prop} (hg:o.guard=none) (t:TypeId) (parts:Array (Nat × Operand)) (ho:o.op=.build t parts) (cs:Array Value)
  (hf:P.built t (parts.map fun (i,x)=>(i,a.eval x)).toList=some cs) (h:wpList P ops Q rest (a.put o.dst (.agg cs)) w):wpList P ops Q (o::rest) a w:=
 wpList_build hg t parts ho (by rw[hf];rfl) (by rw[hf];exact h)
theorem JM {w0 w:World} (s:Since w0 w) {g : Nat} (hg:w0.heap.size≤g) (cs:Array Value):Since w0 (w.setRow g cs):=
 Below.trans s ⟨rfl,rfl,rfl,by simp[World.setRow],fun i hi=>setRow_other w g i cs (by omega)⟩
theorem Zew (w:World):Calls Tryz.prog 41 #[] w fun e w'=>e=.returned (.agg costA)∧Since w w':=by
 go_enter Tryz.func41,Tryz.ntmps41
 go_wp2_with (first
  | (refine KR rfl 97 _ rfl costA (by kernel_rfl) ?_)
  | (refine wpList_store_row rfl 97 _ _ rfl w.heap.size costA rfl rfl 97 _ (Z2 w _) (by kernel_rfl) (by kernel_rfl) (by kernel_rfl) ?_;generalize hW:(World.alloc w _).setRow w.heap.size costA=W;have ha:=zH (Since w W) (by rw[←hW];exact JM ((Since.refl w).alloc _) (Nat.le_refl _) _);have hb:=zH (HeapIs W w.heap.size costA 97) (by rw[←hW];exact Ye (HeapIs.new w _ _) _);clear hW))
 refine bodyPost_ret (results_cell_row rfl _ _ w.heap.size 97 costA (0,0) _ rfl hb.out Tryz.underlying97 rfl (by kernel_rfl)) rfl ?_;exact⟨rfl,ha.out⟩
end Go.Proofs.YtmhojfpidedjeaaGreatDoor
